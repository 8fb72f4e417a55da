/- SplitPartsUptoSaid: a part of its proof (part 12 of 14). -/
import Derived.Test.YtgakninlhfkkmaaGreatM11
import Derived.Test.YtgakninlhfkkmaaGreatRows
import Derived.WalkKit
import Derived.ProofKit
import Derived.OpenShut
import Derived.JoinedCond
import Derived.ReadAgain
import Derived.ChangeReads
namespace Go.Proofs.YtgakninlhfkkmaaGreat.Sh
open Proofs
set_option maxRecDepth 10000
def LK (m2 : List Int) (h : AF) : Prop := h.sized ∧ DJ m2 h
theorem J5 : ∀ (l : List AE), (∀ x ∈ l, x.text.size ≤ 1000) → AY l ≤ l.length * 1000
 | [], _ => by simp [AY]
 | x :: l, h => by
  have h1 := J5 l fun y hy => h y (by simp [hy])
  have h2 := h x (by simp)
  have e : AY (x :: l) = x.text.size + AY l := by simp [AY]
  simp only [List.length_cons]; omega
theorem NL {m2 : List Int} {B : Nat} : ∀ {N : Nat} {l : List AE}, EZ AF.sized B N l → Lz N l → Oy m2 N l → EZ (LK m2) 150000 N l
 | 0, _, h, _, _ => h.elim
 | N + 1, l, hl, hf, hk => by
  obtain ⟨_, _, h3⟩ := Dl.1 hl
  obtain ⟨f1, f2⟩ := hf
  refine Dl.2 ⟨by omega, ?_, fun x hx => ?_⟩
  · have := J5 l fun x hx => (f2 x hx).1.1
    omega
  · obtain ⟨a1, a2, a3, a4⟩ := h3 x hx
    obtain ⟨⟨b1, b2⟩, b3, b4⟩ := f2 x hx
    obtain ⟨c1, c2, c3, _, c4⟩ := hk x hx
    refine ⟨⟨a1, c2⟩, NL a2 b3 c3, by omega, fun r hr => ?_⟩
    obtain ⟨u1, u2, u3⟩ := a4 r hr
    obtain ⟨v1, v2⟩ := b4 r hr
    obtain ⟨w1, w2⟩ := c4 r hr
    exact ⟨⟨u1, w1.1⟩, by omega, fun c hc => ⟨⟨(u3 c hc).1, (w2 c hc).1⟩, NL (u3 c hc).2 (v2 c hc) (w2 c hc).2⟩⟩
section
variable {hp : AF → Prop} {σ : Type} {f : σ → Br → AF × Bool × σ} {K N : Nat}
end
theorem Ps {m2 : List Int} {h : AF} (H : LK m2 h) : ∀ u ∈ h.all, u ∈ 0 :: m2 := fun u hu => by
 have k := H.2
 simp only [AF.all, List.mem_cons, List.mem_append, List.mem_map] at hu ⊢
 rcases hu with rfl | ⟨x, hx, rfl⟩ | ⟨x, hx, rfl⟩
 · rcases k.ins with e | e
   · exact .inl e
   · exact .inr e
 · exact .inr (k.dels x hx)
 · exact .inr (k.layers x hx)
theorem I2 {m2 : List Int} {K N : Nat} {W : AI} (hm : m2.length ≤ 1000) (hK : K ≤ 1048576) (h : EZ (LK m2) K N W.flow) (he : LK m2 W.«end») (hr : W.revs.length ≤ 1048576) (hs : W.settings.sized) :
 W.sized ∧ W.normal.sized ∧ (BU [] (AE.usL (AU W.flow) ++ W.«end».all)).length ≤ 1048576 := by
 have h1 := h.sized (fun x g => g.1) hK
 have h2 := (F8 h).sized (fun x g => g.1) hK
 refine ⟨⟨h1.1, h1.2, he.1, hr, hs⟩, ⟨h2.1, h2.2, he.1, ?_, hs⟩, ?_⟩
 · exact Nat.le_trans (List.length_filter_le _ _) hr
 · refine Nat.le_trans (SW (L := 0 :: m2) fun u hu => ?_) (by simp only [List.length_cons]; omega)
   rcases List.mem_append.1 hu with hu | hu
   · exact PR (fun h g => Ps g) (F8 h) u hu
   · exact Ps he u hu
theorem OL {m2 : List Int} {h : AF} (g : LK m2 h) : h.revs.length ≤ 1048576 := by
 have a := g.2.dlen
 have b := g.2.llen
 unfold AF.revs
 split <;> simp <;> omega
theorem KM {l : List BF} (h : DT l = 0) : l.length ≤ 256 := by
 unfold DT at h
 have hl : ¬ (256 : Int) < l.length := fun g => by simp [Bo, g] at h
 omega
structure TM where
 rev : Int
 sc : BG
 next : BF
def TM.enc (c : TM) : SV := .agg [AA c.rev, AA c.sc.id, AA c.sc.a, AA c.sc.b, AA c.next.id, .str c.next.author, AA c.next.time]
def SO (w : World) : Cx := ⟨fun _ => none, fun _ => False, w⟩
def BB : Nat := 1048576
section
variable {H : Type} (enc : TypeId × Value → H) (P : Program) (w : World) (base : Nat) (spare : Nat → Bool) (BY : Bool)
variable {α β : Type}
def Rd (k : Nat) (e : TypeId) (F : α → List SV) (z : Nat) (ok : α → Prop) (μ : α → Nat) : Prop :=
 ∀ cs x, DataW.trod enc P w base spare BY k e cs = some x → Rows.uptoBulk x.1 ≤ BB → ∃ a, VL (SO w) (F a) cs ∧ cs.length = z ∧ (∀ v ∈ cs, v.oneCell' = true) ∧ ok a ∧ μ a + 1 ≤ Rows.uptoBulk x.1
def CO (n : Nat) (L : Nat) (fs : List Field) (o : Nat) (F : α → List SV) (ok : α → Prop) (μ : α → Nat) : Prop :=
 ∀ (cs : List Value) (xs : List (DataW H × List MemPlace)), cs.length = L → xs.length = fs.length → (∀ (i : Nat) (f : Field), fs[i]? = some f → DataW.trod enc P w base spare BY n f.type ((cs.drop f.offset).take (P.cellsOf f.type)) = xs[i]?) →
  Rows.uptoBulkAll (xs.map (·.1)) ≤ BB → ∃ b, VL (SO w) (F b) (cs.drop o) ∧ (∀ v ∈ cs.drop o, v.oneCell' = true) ∧ ok b ∧ μ b ≤ Rows.uptoBulkAll (xs.map (·.1))
variable {enc P w base spare BY}
theorem Tk {c : Cx} {a b : List SV} {x y : List Value} (h : VL c a x) (g : VL c b y) : VL c (a ++ b) (x ++ y) := BI.2 (AQ.append (BI.1 h) (BI.1 g))
theorem CO.nil {n L : Nat} : CO enc P w base spare BY n L [] L (fun _ : Unit => []) (fun _ => True) (fun _ => 0) := fun cs xs h1 h2 _ _ => by
 have : cs.drop L = [] := List.drop_eq_nil_of_le (by omega)
 exact ⟨(), by rw [this, VL], by rw [this]; simp, trivial, Nat.zero_le _⟩
theorem CO.cons {n L : Nat} {f : Field} {fs : List Field} {o z : Nat} {F1 : α → List SV} {F2 : β → List SV} {ok1 : α → Prop} {ok2 : β → Prop} {μ1 : α → Nat} {μ2 : β → Nat} (h1 : Rd enc P w base spare BY n f.type F1 z ok1 μ1) (hz : P.cellsOf f.type = z) (ho : f.offset = o)
 (h2 : CO enc P w base spare BY n L fs (o + z) F2 ok2 μ2) : CO enc P w base spare BY n L (f :: fs) o (fun p : α × β => F1 p.1 ++ F2 p.2) (fun p => ok1 p.1 ∧ ok2 p.2) (fun p => μ1 p.1 + μ2 p.2) := fun cs xs g1 g2 g3 g4 => by
 cases xs with
 | nil => simp at g2
 | cons x xs =>
  simp only [List.map_cons, Rows.uptoBulkAll] at g4
  have e0 := g3 0 f rfl
  rw [ho, hz] at e0
  obtain ⟨a, a1, a2, a3, a4, a5⟩ := h1 _ x (by simpa using e0) (by omega)
  obtain ⟨b, b1, b2, b3, b4⟩ := h2 cs xs g1 (by simpa using g2) (fun i f' hf => by have := g3 (i + 1) f' (by simpa using hf); simpa using this) (by omega)
  have ed : cs.drop o = (cs.drop o).take z ++ cs.drop (o + z) := by rw [← List.drop_drop, List.take_append_drop]
  refine ⟨(a, b), ?_, ?_, ⟨a4, b3⟩, ?_⟩
  · rw [ed]; exact Tk a1 b1
  · rw [ed]; intro v hv
    rcases List.mem_append.1 hv with hv | hv
    · exact a3 v hv
    · exact b2 v hv
  · simp only [List.map_cons, Rows.uptoBulkAll]; omega
theorem CO.rd {n L : Nat} {T : TypeId} {fs : Array Field} {F : α → List SV} {ok : α → Prop} {μ : α → Nat} (ht : P.underlying T = some (.struct fs)) (hz : P.cellsOf T = L) (h : CO enc P w base spare BY n L fs.toList 0 F ok μ) : Rd enc P w base spare BY (n + 1) T F L ok μ := fun cs x hx hb => by
 obtain ⟨xs, m, hm, rfl, hl, hlen, hf⟩ := DataW.trod_struct ht hx
 obtain rfl : n = m := by omega
 simp only [Rows.uptoBulk] at hb ⊢
 obtain ⟨b, b1, b2, b3, b4⟩ := h cs xs (by omega) (by simpa using hlen) (fun i f e => hf i f (by simpa using e)) (by omega)
 exact ⟨b, by simpa using b1, by omega, by simpa using b2, b3, by omega⟩
theorem Rd.map {k e z : Nat} {F : α → List SV} {ok : α → Prop} {μ : α → Nat} (h : Rd enc P w base spare BY k e F z ok μ) (g : α → β) {F' : β → List SV} {ok' : β → Prop} {μ' : β → Nat} (hF : ∀ a, F' (g a) = F a) (hok : ∀ a, ok a → ok' (g a)) (hμ : ∀ a, μ' (g a) ≤ μ a) : Rd enc P w base spare BY k e F' z ok' μ' := fun cs x hx hb => by
 obtain ⟨a, a1, a2, a3, a4, a5⟩ := h cs x hx hb
 exact ⟨g a, by rw [hF]; exact a1, a2, a3, hok a a4, by have := hμ a; omega⟩
theorem Kw {c : Cx} {s : SV} {v : Value} (h : V c s v) : VL c [s] [v] := BI.2 ⟨h, trivial⟩
theorem UK {k : Nat} {T : TypeId} (ht : P.underlying T = some (.int .i64)) : Rd enc P w base spare BY k T (fun n : Int => [AA n]) 1 (fun _ => True) (fun _ => 0) := fun cs x hx _ => by
 obtain ⟨n, rfl, rfl, _⟩ := DataW.trod_int ht hx
 exact ⟨n, Kw (by rw [V]), rfl, by simp [Value.oneCell'], trivial, by simp [Rows.uptoBulk]⟩
theorem S8 {k : Nat} {T : TypeId} (ht : P.underlying T = some .bool) : Rd enc P w base spare BY k T (fun n : Bool => [.bool n]) 1 (fun _ => True) (fun _ => 0) := fun cs x hx _ => by
 obtain ⟨n, rfl, rfl⟩ := DataW.trod_bool ht hx
 exact ⟨n, Kw (by rw [V]), rfl, by simp [Value.oneCell'], trivial, by simp [Rows.uptoBulk]⟩
theorem UL {k : Nat} {T : TypeId} (ht : P.underlying T = some .string) : Rd enc P w base spare BY k T (fun s : ByteArray => [.str s]) 1 (fun s => s.size ≤ BB) (fun s => s.size) := fun cs x hx hb => by
 obtain ⟨s, rfl, rfl, _⟩ := DataW.trod_string ht hx
 have e : s.data.toList.length = s.size := by rw [Array.length_toList]; rfl
 simp only [Rows.uptoBulk] at hb ⊢
 exact ⟨s, Kw (by rw [V]), rfl, by simp [Value.oneCell'], by omega, by omega⟩
def Kc (μ : α → Nat) (l : List α) : Nat := (l.map fun a => μ a + 1).sum
theorem C6 (μ : α → Nat) : ∀ l : List α, l.length ≤ Kc μ l
 | [] => by simp
 | a :: l => by have := C6 μ l; simp only [Kc, List.map_cons, List.sum_cons, List.length_cons] at this ⊢; omega
theorem P8 {k z : Nat} {e : TypeId} {F : α → List SV} {f : α → SV} {ok : α → Prop} {μ : α → Nat} (hf : ∀ a, f a = .agg (F a)) (hs : ∀ a, (f a).storable = true) (hR : Rd enc P w base spare BY k e F z ok μ) (hz : P.cellsOf e = z) (hz0 : 0 < z) (a : Addr) :
 ∀ (ys : List (DataW H × List MemPlace)) (i : Nat), (∀ j, j < ys.length → (w.cells? base (a.add ((i + j) * P.cellsOf e)) (P.cellsOf e)).bind (DataW.trod enc P w base spare BY k e) = ys[j]?) → Rows.uptoBulkAll (ys.map (·.1)) ≤ BB →
  ∃ l : List α, ∃ us : List Value, l.length = ys.length ∧ AQ (V (SO w)) (l.map f) us ∧ (∀ u ∈ us, u.cells.size = z) ∧ (∀ v ∈ us.flatMap (·.cells.toList), v.oneCell' = true) ∧ (∀ j v, (us.flatMap (·.cells.toList))[j]? = some v → w.cell? (a.add (i * z + j)) = some v) ∧ (∀ a ∈ l, ok a) ∧ Kc μ l ≤ Rows.uptoBulkAll (ys.map (·.1))
 | [], i, _, _ => ⟨[], [], rfl, trivial, by simp, by simp, by simp, by simp, by simp [Kc]⟩
 | y :: ys, i, hy, hb => by
  simp only [List.map_cons, Rows.uptoBulkAll] at hb
  have h0 := hy 0 (by simp)
  simp only [List.getElem?_cons_zero, Nat.add_zero] at h0
  obtain ⟨cs, hcs, hx⟩ := Option.bind_eq_some_iff.1 h0
  obtain ⟨_, hcl, hce⟩ := World.cells?_some hcs
  obtain ⟨b, b1, b2, b3, b4, b5⟩ := hR cs y hx (by omega)
  obtain ⟨l, us, l1, l2, l3, l4, l5, l6, l7⟩ := P8 hf hs hR hz hz0 a ys (i + 1) (fun j hj => by have := hy (j + 1) (by simp; omega); rw [show i + 1 + j = i + (j + 1) by omega]; simpa using this) (by omega)
  have hc : (Value.agg cs.toArray).cells.toList = cs := by simp [Value.cells]
  refine ⟨b :: l, .agg cs.toArray :: us, by simp [l1], ⟨?_, l2⟩, ?_, ?_, ?_, ?_, ?_⟩
  · show V (SO w) (f b) (.agg cs.toArray)
    rw [hf, V]; exact ⟨cs, rfl, b1, b3⟩
  · intro u hu
    rcases List.mem_cons.1 hu with rfl | hu
    · simpa [Value.cells] using b2
    · exact l3 u hu
  · intro v hv
    rw [List.flatMap_cons, hc] at hv
    rcases List.mem_append.1 hv with hv | hv
    · exact b3 v hv
    · exact l4 v hv
  · intro j v hv
    rw [List.flatMap_cons, hc] at hv
    by_cases hj : j < z
    · rw [List.getElem?_append_left (by omega)] at hv
      have := hce j (by rw [hz]; exact hj)
      rw [hz, hv] at this
      have e : (a.add (i * z)).add j = a.add (i * z + j) := by
       unfold Addr.add
       by_cases e1 : i * z = 0
       · simp [e1]
       · by_cases e2 : j = 0
         · simp [e1, e2]
         · simp [e1, e2, Nat.add_assoc]
      rw [e] at this; exact this
    · rw [List.getElem?_append_right (by omega)] at hv
      have := l5 (j - cs.length) v hv
      rw [show (i + 1) * z + (j - cs.length) = i * z + j by rw [b2, Nat.add_mul, Nat.one_mul]; omega] at this
      exact this
  · intro q hq
    rcases List.mem_cons.1 hq with rfl | hq
    · exact b4
    · exact l6 q hq
  · simp only [List.map_cons, Rows.uptoBulkAll, Kc, List.sum_cons] at l7 ⊢; omega
theorem DQ {k z : Nat} {e T : TypeId} {F : α → List SV} {f : α → SV} {ok : α → Prop} {μ : α → Nat} (hf : ∀ a, f a = .agg (F a)) (hs : ∀ a, (f a).storable = true) (ht : P.underlying T = some (.slice e)) (hz : P.cellsOf e = z) (hz0 : 0 < z) (hR : ∀ m, m + 1 = k → Rd enc P w base spare BY m e F z ok μ) :
 Rd enc P w base spare BY k T (fun l : List α => [.imm z (l.map f) false]) 1 (fun l => (∀ a ∈ l, ok a) ∧ Kc μ l ≤ BB) (Kc μ) := fun cs x hx hb => by
 rcases DataW.trod_slice ht hx with ⟨rfl, rfl⟩ | ⟨a, len, cap, elems, rest, n, hn, rfl, rfl, _, hlc, _, hel, he, _, _⟩
 · exact ⟨[], Kw (by rw [V]; exact .inl ⟨rfl, rfl⟩), rfl, by simp [Value.oneCell'], ⟨by simp, by simp [Kc]⟩, by simp [Kc, Rows.uptoBulk]⟩
 · simp only [Rows.uptoBulk] at hb ⊢
   obtain ⟨l, us, l1, l2, l3, l4, l5, l6, l7⟩ := P8 hf hs (hR n hn.symm) hz hz0 a elems 0 (fun j hj => by rw [Nat.zero_add]; exact he j (by omega)) (by omega)
   refine ⟨l, Kw ?_, rfl, by simp [Value.oneCell'], ⟨l6, by omega⟩, by omega⟩
   rw [V]
   right
   refine ⟨a, cap, us.flatMap (·.cells.toList), by rw [List.length_map, l1, hel], by rw [List.length_map, l1, hel]; exact hlc, by simp, ?_, IM.2 ⟨us, l2, l3, fun s hs' => ?_, rfl⟩⟩
   · have hsp : us.flatMap (·.cells.toList) ≠ [] → a.spot = none := fun hne => by
      obtain ⟨v, r, hv⟩ := List.exists_cons_of_ne_nil hne
      have := World.cell?_spot (l5 0 v (by rw [hv]; rfl))
      simpa [Addr.add] using this
     refine ⟨hsp, fun _ h => h, fun i v hv => ?_, l4⟩
     have h1 := l5 i v hv
     have h2 := hsp (by rintro e; rw [e] at hv; simp at hv)
     rw [Nat.zero_mul, Nat.zero_add] at h1
     have e : a.add i = ⟨a.block, a.off + i, none⟩ := by
      unfold Addr.add
      split
      · subst_vars; cases a; simp_all
      · rfl
     rw [e] at h1; exact h1
   · obtain ⟨q, _, rfl⟩ := List.mem_map.1 hs'
     exact hs q
end
section
variable {H : Type} {enc : TypeId × Value → H} {w : World} {base : Nat} {spare : Nat → Bool} {BY : Bool} {α : Type}
theorem Rd.zero {e : TypeId} {F : α → List SV} {z : Nat} {ok : α → Prop} {μ : α → Nat} : Rd enc Tryz.prog w base spare BY 0 e F z ok μ := fun cs x hx _ => by simp [DataW.trod] at hx
theorem Ea (k : Nat) : Rd enc Tryz.prog w base spare BY k 3 (fun n : Int => [AA n]) 1 (fun _ => True) (fun _ => 0) := UK Tryz.underlying3
theorem OV (k : Nat) : Rd enc Tryz.prog w base spare BY k 9 (fun s : ByteArray => [.str s]) 1 (fun s => s.size ≤ BB) (fun s => s.size) := UL Tryz.underlying9
theorem Tf (k : Nat) : Rd enc Tryz.prog w base spare BY k 4 (fun b : Bool => [.bool b]) 1 (fun _ => True) (fun _ => 0) := S8 Tryz.underlying4
def FH.F (p : FH) : List SV := [AA p.key, AA p.value]
theorem rPrp : ∀ k, Rd enc Tryz.prog w base spare BY k 193 FH.F 2 (fun _ => True) (fun _ => 0)
 | 0 => Rd.zero
 | k + 1 => (CO.rd Tryz.underlying193 (by kernel_rfl) (CO.cons (Ea k) (by kernel_rfl) rfl (CO.cons (Ea k) (by kernel_rfl) rfl CO.nil))).map (fun p => ⟨p.1, p.2.1⟩) (fun _ => rfl) (fun _ _ => trivial) (fun _ => Nat.zero_le _)
def CF.F (p : CF) : List SV := [AA p.rev, AA p.move]
theorem rDel : ∀ k, Rd enc Tryz.prog w base spare BY k 166 CF.F 2 (fun _ => True) (fun _ => 0)
 | 0 => Rd.zero
 | k + 1 => (CO.rd Tryz.underlying166 (by kernel_rfl) (CO.cons (Ea k) (by kernel_rfl) rfl (CO.cons (Ea k) (by kernel_rfl) rfl CO.nil))).map (fun p => ⟨p.1, p.2.1⟩) (fun _ => rfl) (fun _ _ => trivial) (fun _ => Nat.zero_le _)
def BD.F (p : BD) : List SV := [AA p.rev, AA p.key, AA p.before, .bool p.had]
theorem UE : ∀ k, Rd enc Tryz.prog w base spare BY k 164 BD.F 4 (fun _ => True) (fun _ => 0)
 | 0 => Rd.zero
 | k + 1 => (CO.rd Tryz.underlying164 (by kernel_rfl) (CO.cons (Ea k) (by kernel_rfl) rfl (CO.cons (Ea k) (by kernel_rfl) rfl (CO.cons (Ea k) (by kernel_rfl) rfl (CO.cons (Tf k) (by kernel_rfl) rfl CO.nil))))).map (fun p => ⟨p.1, p.2.1, p.2.2.1, p.2.2.2.1⟩) (fun _ => rfl) (fun _ _ => trivial) (fun _ => Nat.zero_le _)
def BF.F (p : BF) : List SV := [AA p.id, .str p.author, AA p.time]
theorem rRev : ∀ k, Rd enc Tryz.prog w base spare BY k 42 BF.F 3 (fun r => r.author.size ≤ BB) (fun _ => 0)
 | 0 => Rd.zero
 | k + 1 => (CO.rd Tryz.underlying42 (by kernel_rfl) (CO.cons (Ea k) (by kernel_rfl) rfl (CO.cons (OV k) (by kernel_rfl) rfl (CO.cons (Ea k) (by kernel_rfl) rfl CO.nil)))).map (fun p => (⟨p.1, p.2.1, p.2.2.1⟩ : BF)) (fun _ => rfl) (fun _ h => h.2.1) (fun _ => Nat.zero_le _)
theorem Ru (k : Nat) : Rd enc Tryz.prog w base spare BY k 23 (fun l : List FH => [Ah l]) 1 (fun l => l.length ≤ BB) (fun _ => 0) :=
 (DQ (f := FH.enc) (F := FH.F) (fun _ => rfl) FH.E.st Tryz.underlying23 (by kernel_rfl) (by omega) (fun m _ => rPrp m)).map (fun l => l) (fun _ => rfl) (fun l h => by have := C6 (fun _ => 0) l; have := h.2; omega) (fun _ => Nat.zero_le _)
theorem rDels (k : Nat) : Rd enc Tryz.prog w base spare BY k 24 (fun l : List CF => [Ao l]) 1 (fun l => l.length ≤ BB) (fun _ => 0) :=
 (DQ (f := CF.enc) (F := CF.F) (fun _ => rfl) CF.E.st Tryz.underlying24 (by kernel_rfl) (by omega) (fun m _ => rDel m)).map (fun l => l) (fun _ => rfl) (fun l h => by have := C6 (fun _ => 0) l; have := h.2; omega) (fun _ => Nat.zero_le _)
theorem S5 (k : Nat) : Rd enc Tryz.prog w base spare BY k 25 (fun l : List BD => [AV l]) 1 (fun l => l.length ≤ BB) (fun _ => 0) :=
 (DQ (f := BD.enc) (F := BD.F) (fun _ => rfl) BD.E.st Tryz.underlying25 (by kernel_rfl) (by omega) (fun m _ => UE m)).map (fun l => l) (fun _ => rfl) (fun l h => by have := C6 (fun _ => 0) l; have := h.2; omega) (fun _ => Nat.zero_le _)
theorem rRevs (k : Nat) : Rd enc Tryz.prog w base spare BY k 30 (fun l : List BF => [A3 l]) 1 (fun l => l.length ≤ BB ∧ ∀ r ∈ l, r.author.size ≤ BB) (fun _ => 0) :=
 (DQ (f := BF.enc) (F := BF.F) (fun _ => rfl) BF.E.st Tryz.underlying30 (by kernel_rfl) (by omega) (fun m _ => rRev m)).map (fun l => l) (fun _ => rfl) (fun l h => ⟨by have := C6 (fun _ => 0) l; have := h.2; omega, h.1⟩) (fun _ => Nat.zero_le _)
theorem UH : ∀ k, Rd enc Tryz.prog w base spare BY k 27 (fun m : Int × Int × List CF × List BD => [AA m.1, AA m.2.1, Ao m.2.2.1, AV m.2.2.2]) 4 (fun m => m.2.2.1.length ≤ BB ∧ m.2.2.2.length ≤ BB) (fun _ => 0)
 | 0 => Rd.zero
 | k + 1 => (CO.rd Tryz.underlying27 (by kernel_rfl) (CO.cons (Ea k) (by kernel_rfl) rfl (CO.cons (Ea k) (by kernel_rfl) rfl (CO.cons (rDels k) (by kernel_rfl) rfl (CO.cons (S5 k) (by kernel_rfl) rfl CO.nil))))).map (fun p => (p.1, p.2.1, p.2.2.1, p.2.2.2.1)) (fun _ => rfl) (fun _ h => ⟨h.2.2.1, h.2.2.2.1⟩) (fun _ => Nat.zero_le _)
theorem P7 : ∀ k, Rd enc Tryz.prog w base spare BY k 29 AF.flat 5 AF.sized (fun _ => 0)
 | 0 => Rd.zero
 | k + 1 => (CO.rd Tryz.underlying29 (by kernel_rfl) (CO.cons (Ru k) (by kernel_rfl) rfl (CO.cons (UH k) (by kernel_rfl) rfl CO.nil))).map (fun p => (⟨p.1, p.2.1.1, p.2.1.2.1, p.2.1.2.2.1, p.2.1.2.2.2⟩ : AF)) (fun _ => rfl) (fun _ h => ⟨h.1, h.2.1.1, h.2.1.2⟩) (fun _ => Nat.zero_le _)
def AE.F (x : AE) : List SV := [AA x.kind, AA x.code, AA x.id, .str x.text, Ah x.head.props, AA x.head.ins, AA x.head.move, Ao x.head.dels, AV x.head.layers, AG x.flow, Ay x.rows]
def AS.F (x : AS) : List SV := [Ah x.head.props, AA x.head.ins, AA x.head.move, Ao x.head.dels, AV x.head.layers, Bt x.cells]
def AK.F (x : AK) : List SV := [AA x.id, Ah x.head.props, AA x.head.ins, AA x.head.move, Ao x.head.dels, AV x.head.layers, AG x.flow]
def Sx (N : Nat) (c : AK) : Prop := c.head.sized ∧ EZ AF.sized BB N c.flow
def UB (N : Nat) (r : AS) : Prop := r.head.sized ∧ r.cells.length ≤ BB ∧ ∀ c ∈ r.cells, Sx N c
theorem Mu : ∀ l : List AE, AY l ≤ Kc (fun x => x.text.size) l
 | [] => by simp [AY]
 | x :: l => by
  have := Mu l
  simp only [AY, Kc, List.map_cons, List.sum_cons] at this ⊢; omega
theorem UD : ∀ k, Rd enc Tryz.prog w base spare BY k 22 (fun l : List AE => [AG l]) 1 (fun l => ∀ N, k < N → EZ AF.sized BB N l) (Kc fun x => x.text.size) := fun k => by
 induction k using Nat.strongRecOn with
 | ind k ih =>
 have cell : ∀ m, m < k → Rd enc Tryz.prog w base spare BY m 171 AK.F 7 (fun c => ∀ N, m ≤ N → Sx N c) (fun _ => 0) := fun m hm => by
  cases m with
  | zero => exact Rd.zero
  | succ m =>
   exact (CO.rd Tryz.underlying171 (by kernel_rfl) (CO.cons (Ea m) (by kernel_rfl) rfl (CO.cons (P7 m) (by kernel_rfl) rfl (CO.cons (ih m (by omega)) (by kernel_rfl) rfl CO.nil)))).map (fun p => AK.mk p.1 p.2.1 p.2.2.1) (fun _ => rfl) (fun _ h N hN => ⟨h.2.1, h.2.2.1 N (by omega)⟩) (fun _ => Nat.zero_le _)
 have cells : ∀ m, m < k → Rd enc Tryz.prog w base spare BY m 167 (fun l : List AK => [Bt l]) 1 (fun l => l.length ≤ BB ∧ ∀ c ∈ l, ∀ N, m ≤ N → Sx N c) (fun _ => 0) := fun m hm =>
  (DQ (f := AK.enc) (F := AK.F) (ok := fun c => ∀ N, m ≤ N → Sx N c) (fun c => AK.enc_eq c) AK.E.st Tryz.underlying167 (by kernel_rfl) (by omega) (fun q hq => (cell q (by omega)).map (fun c => c) (fun _ => rfl) (fun _ h N hN => h N (by omega)) (fun _ => Nat.le_refl _))).map (fun l => l) (fun _ => rfl) (fun l h => ⟨by have := C6 (fun _ => 0) l; have := h.2; omega, h.1⟩) (fun _ => Nat.zero_le _)
 have row : ∀ m, m < k → Rd enc Tryz.prog w base spare BY m 169 AS.F 6 (fun r => ∀ N, m ≤ N → UB N r) (fun _ => 0) := fun m hm => by
  cases m with
  | zero => exact Rd.zero
  | succ m =>
   exact (CO.rd Tryz.underlying169 (by kernel_rfl) (CO.cons (P7 m) (by kernel_rfl) rfl (CO.cons (cells m (by omega)) (by kernel_rfl) rfl CO.nil))).map (fun p => AS.mk p.1 p.2.1) (fun _ => rfl) (fun _ h N hN => ⟨h.1, h.2.1.1, fun c hc => h.2.1.2 c hc N (by omega)⟩) (fun _ => Nat.zero_le _)
 have rows : ∀ m, m < k → Rd enc Tryz.prog w base spare BY m 68 (fun l : List AS => [Ay l]) 1 (fun l => l.length ≤ BB ∧ ∀ c ∈ l, ∀ N, m ≤ N → UB N c) (fun _ => 0) := fun m hm =>
  (DQ (f := AS.enc) (F := AS.F) (ok := fun c => ∀ N, m ≤ N → UB N c) (fun c => AS.enc_eq c) AS.E.st Tryz.underlying68 (by kernel_rfl) (by omega) (fun q hq => (row q (by omega)).map (fun c => c) (fun _ => rfl) (fun _ h N hN => h N (by omega)) (fun _ => Nat.le_refl _))).map (fun l => l) (fun _ => rfl) (fun l h => ⟨by have := C6 (fun _ => 0) l; have := h.2; omega, h.1⟩) (fun _ => Nat.zero_le _)
 have item : ∀ m, m < k → Rd enc Tryz.prog w base spare BY m 70 AE.F 11 (fun x => ∀ N, m ≤ N → NP AF.sized BB N x) (fun x => x.text.size) := fun m hm => by
  cases m with
  | zero => exact Rd.zero
  | succ m =>
   exact (CO.rd Tryz.underlying70 (by kernel_rfl) (CO.cons (Ea m) (by kernel_rfl) rfl (CO.cons (Ea m) (by kernel_rfl) rfl (CO.cons (Ea m) (by kernel_rfl) rfl (CO.cons (OV m) (by kernel_rfl) rfl (CO.cons (P7 m) (by kernel_rfl) rfl (CO.cons (ih m (by omega)) (by kernel_rfl) rfl (CO.cons (rows m (by omega)) (by kernel_rfl) rfl CO.nil)))))))).map (fun p => AE.mk p.1 p.2.1 p.2.2.1 p.2.2.2.1 p.2.2.2.2.1 p.2.2.2.2.2.1 p.2.2.2.2.2.2.1) (fun _ => rfl)
    (fun _ h N hN => ⟨h.2.2.2.2.1, h.2.2.2.2.2.1 N (by omega), h.2.2.2.2.2.2.1.1, fun r hr => h.2.2.2.2.2.2.1.2 r hr N (by omega)⟩) (fun p => by show p.2.2.2.1.size ≤ _; omega)
 exact (DQ (f := AE.enc) (F := AE.F) (ok := fun x => ∀ N, k ≤ N + 1 → NP AF.sized BB N x) (fun c => AE.enc_eq c) AE.E.st Tryz.underlying22 (by kernel_rfl) (by omega) (fun q hq => (item q (by omega)).map (fun c => c) (fun _ => rfl) (fun _ h N hN => h N (by omega)) (fun _ => Nat.le_refl _))).map (fun l => l) (fun _ => rfl) (fun l h N hN => by
  cases N with
  | zero => omega
  | succ N =>
   have h1 := C6 (fun x : AE => x.text.size) l
   have h2 := Mu l
   have h3 := h.2
   exact Dl.2 ⟨by omega, by omega, fun x hx => h.1 x hx N (by omega)⟩) (fun _ => Nat.le_refl _)
end
section
variable {H : Type} {enc : TypeId × Value → H} {w : World} {base : Nat} {spare : Nat → Bool} {BY : Bool} {α : Type}
def A6.F (s : A6) : List SV := [AA s.id, AA s.kind, .str s.name, AA s.base, AA s.next, Ah s.props]
theorem UJ : ∀ k, Rd enc Tryz.prog w base spare BY k 198 A6.F 6 (fun s => s.props.length ≤ BB) (fun _ => 0)
 | 0 => Rd.zero
 | k + 1 => (CO.rd Tryz.underlying198 (by kernel_rfl) (CO.cons (Ea k) (by kernel_rfl) rfl (CO.cons (Ea k) (by kernel_rfl) rfl (CO.cons (OV k) (by kernel_rfl) rfl (CO.cons (Ea k) (by kernel_rfl) rfl (CO.cons (Ea k) (by kernel_rfl) rfl (CO.cons (Ru k) (by kernel_rfl) rfl CO.nil))))))).map
  (fun p => (⟨p.1, p.2.1, p.2.2.1, p.2.2.2.1, p.2.2.2.2.1, p.2.2.2.2.2.1⟩ : A6)) (fun _ => rfl) (fun _ h => h.2.2.2.2.2.1) (fun _ => Nat.zero_le _)
def Cu.F (s : Cu) : List SV := [AA s.format, AA s.start, .str s.template, AA s.restart]
theorem UF : ∀ k, Rd enc Tryz.prog w base spare BY k 106 Cu.F 4 (fun s => s.template.size ≤ BB) (fun _ => 0)
 | 0 => Rd.zero
 | k + 1 => (CO.rd Tryz.underlying106 (by kernel_rfl) (CO.cons (Ea k) (by kernel_rfl) rfl (CO.cons (Ea k) (by kernel_rfl) rfl (CO.cons (OV k) (by kernel_rfl) rfl (CO.cons (Ea k) (by kernel_rfl) rfl CO.nil))))).map
  (fun p => (⟨p.1, p.2.1, p.2.2.1, p.2.2.2.1⟩ : Cu)) (fun _ => rfl) (fun _ h => h.2.2.1) (fun _ => Nat.zero_le _)
theorem S6 (k : Nat) : Rd enc Tryz.prog w base spare BY k 101 (fun l : List Cu => [Cr l]) 1 (fun l => l.length ≤ BB ∧ ∀ r ∈ l, r.template.size ≤ BB) (fun _ => 0) :=
 (DQ (f := Cu.enc) (F := Cu.F) (fun _ => rfl) Cu.E.st Tryz.underlying101 (by kernel_rfl) (by omega) (fun m _ => UF m)).map (fun l => l) (fun _ => rfl) (fun l h => ⟨by have := C6 (fun _ => 0) l; have := h.2; omega, h.1⟩) (fun _ => Nat.zero_le _)
def GY.F (s : GY) : List SV := [AA s.id, Cr s.levels]
theorem rLst : ∀ k, Rd enc Tryz.prog w base spare BY k 103 GY.F 2 (fun s => s.levels.length ≤ BB ∧ ∀ r ∈ s.levels, r.template.size ≤ BB) (fun _ => 0)
 | 0 => Rd.zero
 | k + 1 => (CO.rd Tryz.underlying103 (by kernel_rfl) (CO.cons (Ea k) (by kernel_rfl) rfl (CO.cons (S6 k) (by kernel_rfl) rfl CO.nil))).map (fun p => (⟨p.1, p.2.1⟩ : GY)) (fun _ => rfl) (fun _ h => h.2.1) (fun _ => Nat.zero_le _)
def Aw.F (c : Aw) : List SV := [AA c.id, AA c.parent, .str c.author, AA c.time, .str c.text, .bool c.done]
theorem Rt : ∀ k, Rd enc Tryz.prog w base spare BY k 115 Aw.F 6 (fun s => s.author.size ≤ BB ∧ s.text.size ≤ BB) (fun _ => 0)
 | 0 => Rd.zero
 | k + 1 => (CO.rd Tryz.underlying115 (by kernel_rfl) (CO.cons (Ea k) (by kernel_rfl) rfl (CO.cons (Ea k) (by kernel_rfl) rfl (CO.cons (OV k) (by kernel_rfl) rfl (CO.cons (Ea k) (by kernel_rfl) rfl (CO.cons (OV k) (by kernel_rfl) rfl (CO.cons (Tf k) (by kernel_rfl) rfl CO.nil))))))).map
  (fun p => (⟨p.1, p.2.1, p.2.2.1, p.2.2.2.1, p.2.2.2.2.1, p.2.2.2.2.2.1⟩ : Aw)) (fun _ => rfl) (fun _ h => ⟨h.2.2.1, h.2.2.2.2.1⟩) (fun _ => Nat.zero_le _)
def GV.F (c : GV) : List SV := [.str c.name, .str c.value]
theorem rVar : ∀ k, Rd enc Tryz.prog w base spare BY k 118 GV.F 2 (fun s => s.name.size ≤ BB ∧ s.value.size ≤ BB) (fun _ => 0)
 | 0 => Rd.zero
 | k + 1 => (CO.rd Tryz.underlying118 (by kernel_rfl) (CO.cons (OV k) (by kernel_rfl) rfl (CO.cons (OV k) (by kernel_rfl) rfl CO.nil))).map (fun p => (⟨p.1, p.2.1⟩ : GV)) (fun _ => rfl) (fun _ h => ⟨h.1, h.2.1⟩) (fun _ => Nat.zero_le _)
theorem S7 (k : Nat) : Rd enc Tryz.prog w base spare BY k 31 (fun l : List A6 => [AT l]) 1 (fun l => l.length ≤ BB ∧ ∀ r ∈ l, r.props.length ≤ BB) (fun _ => 0) :=
 (DQ (f := A6.enc) (F := A6.F) (fun _ => rfl) A6.E.st Tryz.underlying31 (by kernel_rfl) (by omega) (fun m _ => UJ m)).map (fun l => l) (fun _ => rfl) (fun l h => ⟨by have := C6 (fun _ => 0) l; have := h.2; omega, h.1⟩) (fun _ => Nat.zero_le _)
theorem UG (k : Nat) : Rd enc Tryz.prog w base spare BY k 32 (fun l : List GY => [Dc l]) 1 (fun l => l.length ≤ BB ∧ ∀ s ∈ l, s.levels.length ≤ BB ∧ ∀ r ∈ s.levels, r.template.size ≤ BB) (fun _ => 0) :=
 (DQ (f := GY.enc) (F := GY.F) (fun _ => rfl) GY.E.st Tryz.underlying32 (by kernel_rfl) (by omega) (fun m _ => rLst m)).map (fun l => l) (fun _ => rfl) (fun l h => ⟨by have := C6 (fun _ => 0) l; have := h.2; omega, h.1⟩) (fun _ => Nat.zero_le _)
theorem QZ (k : Nat) : Rd enc Tryz.prog w base spare BY k 33 (fun l : List Aw => [BQ l]) 1 (fun l => l.length ≤ BB ∧ ∀ s ∈ l, s.author.size ≤ BB ∧ s.text.size ≤ BB) (fun _ => 0) :=
 (DQ (f := Aw.enc) (F := Aw.F) (fun _ => rfl) Aw.E.st Tryz.underlying33 (by kernel_rfl) (by omega) (fun m _ => Rt m)).map (fun l => l) (fun _ => rfl) (fun l h => ⟨by have := C6 (fun _ => 0) l; have := h.2; omega, h.1⟩) (fun _ => Nat.zero_le _)
theorem rVars (k : Nat) : Rd enc Tryz.prog w base spare BY k 34 (fun l : List GV => [Ey l]) 1 (fun l => l.length ≤ BB ∧ ∀ s ∈ l, s.name.size ≤ BB ∧ s.value.size ≤ BB) (fun _ => 0) :=
 (DQ (f := GV.enc) (F := GV.F) (fun _ => rfl) GV.E.st Tryz.underlying34 (by kernel_rfl) (by omega) (fun m _ => rVar m)).map (fun l => l) (fun _ => rfl) (fun l h => ⟨by have := C6 (fun _ => 0) l; have := h.2; omega, h.1⟩) (fun _ => Nat.zero_le _)
theorem Qb : ∀ k, Rd enc Tryz.prog w base spare BY k 36 AM.flat 4 AM.sizedT (fun _ => 0)
 | 0 => Rd.zero
 | k + 1 => (CO.rd Tryz.underlying36 (by kernel_rfl) (CO.cons (S7 k) (by kernel_rfl) rfl (CO.cons (UG k) (by kernel_rfl) rfl (CO.cons (QZ k) (by kernel_rfl) rfl (CO.cons (rVars k) (by kernel_rfl) rfl CO.nil))))).map
  (fun p => (⟨p.1, p.2.1, p.2.2.1, p.2.2.2.1⟩ : AM)) (fun _ => rfl) (fun _ h => ⟨⟨h.1.1, h.2.1.1, h.2.2.1.1, h.2.2.2.1.1, h.1.2, fun x hx => (h.2.1.2 x hx).1⟩, fun x hx => (h.2.1.2 x hx).2, h.2.2.1.2, h.2.2.2.1.2⟩) (fun _ => Nat.zero_le _)
def AI.F (d : AI) : List SV := [AG d.flow] ++ d.«end».flat ++ [A3 d.revs] ++ d.settings.flat
theorem Qa : ∀ k, Rd enc Tryz.prog w base spare BY k 38 AI.F 11 (fun d => d.sizedT BB k) (fun _ => 0)
 | 0 => Rd.zero
 | k + 1 => (CO.rd Tryz.underlying38 (by kernel_rfl) (CO.cons (UD k) (by kernel_rfl) rfl (CO.cons (P7 k) (by kernel_rfl) rfl (CO.cons (rRevs k) (by kernel_rfl) rfl (CO.cons (Qb k) (by kernel_rfl) rfl CO.nil))))).map
  (fun p => (⟨p.1, p.2.1, p.2.2.1, p.2.2.2.1⟩ : AI)) (fun _ => rfl) (fun _ h => ⟨h.1 _ (by omega), h.2.1, h.2.2.1.1, h.2.2.1.2, h.2.2.2.1⟩) (fun _ => Nat.zero_le _)
def BG.F (s : BG) : List SV := [AA s.id, AA s.a, AA s.b]
theorem UI : ∀ k, Rd enc Tryz.prog w base spare BY k 40 BG.F 3 (fun _ => True) (fun _ => 0)
 | 0 => Rd.zero
 | k + 1 => (CO.rd Tryz.underlying40 (by kernel_rfl) (CO.cons (Ea k) (by kernel_rfl) rfl (CO.cons (Ea k) (by kernel_rfl) rfl (CO.cons (Ea k) (by kernel_rfl) rfl CO.nil)))).map (fun p => (⟨p.1, p.2.1, p.2.2.1⟩ : BG)) (fun _ => rfl) (fun _ _ => trivial) (fun _ => Nat.zero_le _)
def TM.F (c : TM) : List SV := [AA c.rev, AA c.sc.id, AA c.sc.a, AA c.sc.b, AA c.next.id, .str c.next.author, AA c.next.time]
theorem rCut : ∀ k, Rd enc Tryz.prog w base spare BY k 44 TM.F 7 (fun c => c.next.author.size ≤ BB) (fun _ => 0)
 | 0 => Rd.zero
 | k + 1 => (CO.rd Tryz.underlying44 (by kernel_rfl) (CO.cons (Ea k) (by kernel_rfl) rfl (CO.cons (UI k) (by kernel_rfl) rfl (CO.cons (rRev k) (by kernel_rfl) rfl CO.nil)))).map (fun p => (⟨p.1, p.2.1, p.2.2.1⟩ : TM)) (fun _ => rfl) (fun _ h => h.2.2.1) (fun _ => Nat.zero_le _)
theorem Rd.arg {k e z : Nat} {F : α → List SV} {ok : α → Prop} {μ : α → Nat} (h : Rd enc Tryz.prog w base spare BY k e F z ok μ) {fs : Array Field} (ht : Tryz.prog.underlying e = some (.struct fs)) {r : Reach} {b0 : Nat} {v : Value} (hv : Value.okWide Tryz.prog w r b0 e v) {x : DataW H × List MemPlace}
 (hx : DataW.trod enc Tryz.prog w base spare BY k e v.cells.toList = some x) (hb : Rows.uptoBulk x.1 ≤ BB) : ∃ a, V (SO w) (.agg (F a)) v ∧ ok a := by
 simp only [Value.okWide, ht] at hv
 obtain ⟨cs, rfl, _, _⟩ := hv
 obtain ⟨a, a1, a2, a3, a4, a5⟩ := h _ x hx hb
 refine ⟨a, ?_, a4⟩
 rw [V]
 exact ⟨cs.toList, by simp, by simpa [Value.cells] using a1, by simpa [Value.cells] using a3⟩
end
open Go.ChangeShapes Go.WideShapes Go.ChangeAt Go.RowKit
theorem kidsT : Kids Tryz.prog (· < Tryz.prog.types.size) := kids_rows (by kernel_rfl) (by kernel_rfl)
theorem fullT : ∀ t e, t < Tryz.prog.types.size → Tryz.prog.underlying t = some (.slice e) → 0 < Tryz.prog.cellsOf e := slices_full_of Tryz.prog (by kernel_rfl)
section
variable {H : Type} {enc : TypeId × Value → H}
theorem QP {W : World} {c' : Cx} (x : DV (SO W) c') {b : Nat} (h : b < W.heap.size) : c'.w.heap[b]? = W.heap[b]? := (x.keep b h (fun h => h)).2
theorem N2 {P : Program} {w w' : World} {base : Nat} {sp : Nat → Bool} {BY : Bool} (hw : ∀ b, b < w.heap.size → w'.heap[b]? = w.heap[b]?) : ∀ {ts : List TypeId} {vs : List Value} {ds : List (DataW H)} {ps : List MemPlace}, DataW.TrodAll enc P w base sp BY ts vs ds ps → (∀ p ∈ ps, p.block < w.heap.size) → DataW.TrodAll enc P w' base sp BY ts vs ds ps
 | [], [], [], _, h, _ => h
 | _ :: _, _ :: _, _ :: _, _, ⟨p, q, ⟨n, h1⟩, h2, e⟩, hs => by
  have hp : ∀ x ∈ p, w.sameAt w' x := fun x hx => by
   have hb := hs x (by rw [e]; exact List.mem_append_left _ hx)
   cases x with
   | cell b off => simp only [World.sameAt, World.cell?, hw b hb]
   | map b => exact hw b hb
  exact ⟨p, q, ⟨n, DataW.trod_carry n _ _ _ h1 hp⟩, N2 hw h2 (fun x hx => hs x (by rw [e]; exact List.mem_append_right _ hx)), e⟩
theorem PX {f : Func} {s : ChangeSpec} {apart fresh handsOn again : Bool} {W W' : World} {args : Array Value} {v : Value} {ds gs : List (DataW H)} {before : List MemPlace} {x : DataW H}
 (hW : DataW.Whole enc Tryz.prog f.params.toList s.vars apart W args.toList ds gs before) (hv : s.vars = []) (hpt : ∀ t ∈ f.params.toList, t < Tryz.prog.types.size)
 (hos : W'.os = W.os) (hout : W'.output = W.output) (hw : ∀ b, b < W.heap.size → W'.heap[b]? = W.heap[b]?)
 (hfn : s.fn H (ds ++ gs) = { results := [x], args := ds })
 (hres : ∀ (b : Nat) (sp : Nat → Bool) (hd : Bool), DataW.TrodAll enc Tryz.prog W' b sp hd f.resultTypes.toList (v.resultList f.resultTypes.size) [x] [])
 (hok : ∀ (j : Nat) (t : TypeId) (r : Value), f.resultTypes[j]? = some t → (v.resultList f.resultTypes.size)[j]? = some r → Value.okWide Tryz.prog W' .any 0 t r) :
 s.post enc Tryz.prog f apart fresh handsOn again W args v W' := by
 have hlt := hW.lt
 have hW2 := hW
 obtain ⟨p, q, h1, h2, rfl, hz, hn⟩ := hW
 rw [hv] at h2
 obtain ⟨rfl, rfl⟩ := trodVars_none h2
 rw [List.append_nil] at hlt hz hn hW2
 have c1 := N2 hw h1 hlt
 have c2 : ∀ sp : Nat → Bool, (∀ x ∈ p, sp x.block = true) → DataW.TrodAll enc Tryz.prog W' 0 sp true f.params.toList args.toList ds p := fun sp hs => DataW.TrodAll.respare kidsT fullT hpt c1 hs
 have hvars : ∀ sp : Nat → Bool, DataW.TrodVars enc Tryz.prog W' sp s.vars [] [] := fun sp => by rw [hv]; rfl
 refine ⟨ds, [], p, [], p, [], hW2, by rw [hfn]; exact hres _ _ _, by rw [hfn]; exact c2 _ (fun x hx => by simpa using hlt x hx), by rw [hfn]; exact hvars _, ?_, fun _ => ?_⟩
 · refine ⟨hos, hout, fun i hi => ?_⟩
   rw [hw i hi]
   generalize W.heap[i]? = o
   cases o with
   | none => rfl
   | some b => cases b <;> simp
 · refine ⟨hok, x :: ds, [], p, ⟨p, [], by simpa using trodAll_append (c2 _ (fun _ _ => rfl)) (hres 0 (fun _ => true) true), hvars _, by simp, ?_, hn⟩, fun x hx _ => hx⟩
   intro b off hp
   have hb := hlt _ hp
   have := hz b off hp
   simp only [World.frozen?] at this ⊢
   rw [hw b hb]; exact this
theorem rel0 (W : World) : Bq (fun _ => none) (SO W) := ⟨fun _ _ h => (by cases h), fun _ _ _ _ _ _ _ h => (by cases h), fun b => ⟨fun h => h.elim, fun ⟨_, _, _, h, _⟩ => (by cases h)⟩⟩
theorem PC.calls {f : FuncId} {a : List SV} {v : SV} (h : PC f a v) {W : World} {vs : List Value} (hv : AQ (V (SO W)) a vs) : Calls Tryz.prog f vs.toArray W fun e W' => ∃ u c', e = .returned u ∧ c'.w = W' ∧ V c' v u ∧ DV (SO W) c' := by
 have := (h (fun _ => none) 0).2 (SO W) vs trivial (rel0 W) (fun _ _ => rfl) hv
 refine this.mono ?_
 rintro e W' ⟨u, v', h', n', c', rfl, ⟨rfl, _⟩, hw, hV, _, _, hA⟩
 exact ⟨u, c', rfl, hw, hV, hA.ext⟩
end
end Go.Proofs.YtgakninlhfkkmaaGreat.Sh
namespace Go.Proofs.YtgakninlhfkkmaaGreat.Sh
open Proofs
set_option maxRecDepth 10000
inductive Kt (s : ByteArray) : Nat → Nat → Prop where
 | nil (a : Nat) : Kt s a a
 | cons {a b : Nat} (h1 : a < s.size) (h2 : (BE s a).2 = true) (h3 : Kt s (a + (BE s a).1) b) : Kt s a b
theorem MN (s : ByteArray) (a n : Nat) : ∀ (f : Nat) (lo hi : Int) (k : Nat), (Ch s a n f lo hi k).2 = true → (Ch s a n f lo hi k).1 = k + f ∧
 ∀ j, k ≤ j → j < k + f → a + j < s.size ∧ (if j = k then lo else 128) ≤ Ad s (a + j) ∧ Ad s (a + j) ≤ if j = k then hi else 191
 | 0, _, _, k, _ => by rw [Ch]; exact ⟨rfl, fun j h1 h2 => by omega⟩
 | f + 1, lo, hi, k, h => by
  rw [Ch] at h ⊢
  split at h
  · cases h
  · rename_i hc
    rw [if_neg hc]
    obtain ⟨h1, h2⟩ := MN s a n f 128 191 (k + 1) h
    refine ⟨by omega, fun j j1 j2 => ?_⟩
    by_cases e : j = k
    · subst e; rw [if_pos rfl, if_pos rfl]; omega
    · have := h2 j (by omega) (by omega)
      rw [if_neg e, if_neg e]
      split at this <;> omega
theorem KC {s t : ByteArray} {a a' : Nat} (n n' : Nat) : ∀ (f : Nat) (lo hi : Int) (k : Nat), (∀ j, k ≤ j → j < k + f → Ad t (a' + j) = Ad s (a + j) ∧ a' + j < t.size) → (Ch s a n f lo hi k).2 = true → Ch t a' n' f lo hi k = Ch s a n f lo hi k
 | 0, _, _, k, _, _ => by rw [Ch, Ch]
 | f + 1, lo, hi, k, h, hs => by
  rw [Ch] at hs ⊢
  rw [Ch.eq_2 s]
  split at hs
  · cases hs
  · rename_i hc
    obtain ⟨h1, h2⟩ := h k (Nat.le_refl _) (by omega)
    rw [if_neg hc, if_neg (by rw [h1]; omega)]
    exact KC n n' f 128 191 (k + 1) (fun j j1 j2 => h j (by omega) (by omega)) hs
theorem Ix {s : ByteArray} {a : Nat} (ha : a < s.size) (h : (BE s a).2 = true) : DF (Ad s a) = (BE s a).1 ∧ 1 ≤ (BE s a).1 ∧ a + (BE s a).1 ≤ s.size ∧ ∀ j, 1 ≤ j → j < (BE s a).1 → 128 ≤ Ad s (a + j) ∧ Ad s (a + j) ≤ 191 := by
 obtain ⟨z0, z1⟩ := Jh (Ad s a)
 simp only [BE] at h ⊢
 split at h
 · cases h
 · rename_i c0
   rw [if_neg c0]
   split at h
   · rename_i c1
     rw [if_pos c1]
     exact ⟨c1, Nat.le_refl _, by show a + 1 ≤ _; omega, fun j j1 j2 => by dsimp only at j2; omega⟩
   · rename_i c1
     rw [if_neg c1]
     obtain ⟨h1, h2⟩ := MN s a _ _ _ _ 1 h
     rw [h1]
     refine ⟨by omega, by omega, ?_, fun j j1 j2 => ?_⟩
     · have := h2 ((DF (Ad s a)).toNat - 1) (by omega) (by omega)
       omega
     · have := h2 j j1 j2
       have l1 : 128 ≤ Iz (Ad s a) ∧ G0 (Ad s a) ≤ 191 := by unfold Iz G0; constructor <;> (repeat' split) <;> omega
       split at this <;> omega
theorem PF {s t : ByteArray} {a a' : Nat} (ha : a < s.size) (hd : (BE s a).2 = true) (h : ∀ j, j < (BE s a).1 → Ad t (a' + j) = Ad s (a + j) ∧ a' + j < t.size) : BE t a' = BE s a := by
 obtain ⟨i1, i2, _, _⟩ := Ix ha hd
 have h0 := (h 0 (by omega)).1
 simp only [Nat.add_zero] at h0
 have hk : ∀ j, j < (DF (Ad s a)).toNat → Ad t (a' + j) = Ad s (a + j) ∧ a' + j < t.size := fun j hj => h j (by omega)
 clear h i1 i2
 simp only [BE] at hd ⊢
 rw [h0]
 split
 · rfl
 · rename_i c0
   rw [if_neg c0] at hd
   split
   · rfl
   · rename_i c1
     rw [if_neg c1] at hd
     exact KC _ _ _ _ _ 1 (fun j j1 j2 => hk j (by omega)) hd
theorem Kt.le {s : ByteArray} {a b : Nat} (H : Kt s a b) : a ≤ b := by
 induction H with
 | nil => exact Nat.le_refl _
 | cons h1 h2 _ ih => omega
theorem Kt.trans {s : ByteArray} {a b c : Nat} (H : Kt s a b) (H2 : Kt s b c) : Kt s a c := by
 induction H with
 | nil => exact H2
 | cons h1 h2 _ ih => exact .cons h1 h2 (ih H2)
theorem Kt.map {s t : ByteArray} {a b : Nat} (H : Kt s a b) : ∀ {a' : Nat}, (∀ p, a ≤ p → p < b → Ad t (a' + (p - a)) = Ad s p) → a' + (b - a) ≤ t.size → Kt t a' (a' + (b - a)) := by
 induction H with
 | nil a => intro a' _ _; rw [Nat.sub_self, Nat.add_zero]; exact .nil _
 | @cons a b h1 h2 h3 ih =>
  intro a' hb hs
  have hle := h3.le
  obtain ⟨i1, i2, i3, i4⟩ := Ix h1 h2
  have e := PF (t := t) (a' := a') h1 h2 fun j hj => ⟨by have := hb (a + j) (by omega) (by omega); rwa [Nat.add_sub_cancel_left] at this, by omega⟩
  refine .cons (by omega) (by rw [e]; exact h2) ?_
  rw [e]
  have := ih (a' := a' + (BE s a).1) (fun p p1 p2 => by have := hb p (by omega) p2; rw [← this]; congr 1; omega) (by omega)
  rw [show a' + (BE s a).1 + (b - (a + (BE s a).1)) = a' + (b - a) by omega] at this
  exact this
theorem Kt.first {s : ByteArray} {a b : Nat} (H : Kt s a b) (hb : b = s.size) : EC s a < 0 := by
 induction H with
 | nil a => rw [EC, dif_neg (by omega)]; decide
 | cons h1 h2 _ ih => rw [EC, dif_pos h1, dif_pos h2]; exact ih hb
theorem Kt.of {s : ByteArray} : ∀ (n a : Nat), s.size - a ≤ n → a ≤ s.size → EC s a < 0 → Kt s a s.size
 | n, a, hn, ha, h => by
  rw [EC] at h
  split at h
  · rename_i h1
    split at h
    · rename_i h2
      obtain ⟨i1, i2, i3, i4⟩ := Ix h1 h2
      cases n with
      | zero => omega
      | succ n => exact .cons h1 h2 (Kt.of n _ (by omega) i3 h)
    · omega
  · have : a = s.size := by omega
    rw [this]; exact .nil _
theorem GJ {s : ByteArray} : BL s = true ↔ Kt s 0 s.size := by
 simp only [BL, decide_eq_true_eq]
 exact ⟨fun h => Kt.of _ 0 (Nat.le_refl _) (Nat.zero_le _) h, fun h => h.first rfl⟩
theorem Ra : (List.range 256).all (fun b => if 128 ≤ b ∧ b ≤ 191 then !Dt b else (DF b == 0 || Dt b)) = true := by kernel_rfl
theorem NB (s : ByteArray) (i : Nat) : 0 ≤ Ad s i ∧ Ad s i < 256 := by
 unfold Ad
 split
 · rename_i b _; have := b.toNat_lt; omega
 · omega
theorem Sl (b : Int) (h0 : 0 ≤ b) (h1 : b < 256) : if 128 ≤ b ∧ b ≤ 191 then Dt b = false else (DF b ≠ 0 → Dt b = true) := by
 have := List.all_eq_true.1 Ra b.toNat (by rw [List.mem_range]; omega)
 have e : ((b.toNat : Nat) : Int) = b := by omega
 rw [e] at this
 by_cases c : 128 ≤ b ∧ b ≤ 191
 · rw [if_pos c]
   rw [if_pos (by omega)] at this
   simpa using this
 · rw [if_neg c]
   rw [if_neg (by omega)] at this
   simp only [Bool.or_eq_true, beq_iff_eq] at this
   exact fun hz => this.resolve_left hz
def Pw (s : ByteArray) (o : Nat) : Prop := o = s.size ∨ Dt (Ad s o) = true
theorem Kt.cut {s : ByteArray} {a b : Nat} (H : Kt s a b) (hb : b = s.size) : ∀ o, a ≤ o → o ≤ b → Pw s o → Kt s a o ∧ Kt s o b := by
 induction H with
 | nil a => intro o h1 h2 _; have : o = a := by omega
            rw [this]; exact ⟨.nil _, .nil _⟩
 | @cons a b h1 h2 h3 ih =>
  intro o o1 o2 ho
  by_cases e : o = a
  · rw [e]; exact ⟨.nil _, .cons h1 h2 h3⟩
  obtain ⟨i1, i2, i3, i4⟩ := Ix h1 h2
  have : a + (BE s a).1 ≤ o := by
   rcases Nat.lt_or_ge o (a + (BE s a).1) with hlt | hge
   · exfalso
     have hc := i4 (o - a) (by omega) (by omega)
     rw [show a + (o - a) = o by omega] at hc
     obtain ⟨r1, r2⟩ := NB s o
     have hh := Sl _ r1 r2
     rw [if_pos hc] at hh
     rcases ho with ho | ho
     · omega
     · rw [hh] at ho; cases ho
   · exact hge
  obtain ⟨k1, k2⟩ := ih hb o this o2 ho
  exact ⟨.cons h1 h2 k1, k2⟩
theorem EN (s : ByteArray) (i : Nat) : Ad s i = match s.data[i]? with | some b => (b.toNat : Int) | none => 0 := by
 rcases Nat.lt_or_ge i s.size with h | h
 · obtain ⟨e1, e2⟩ := Di h
   rw [e2, Array.getElem?_eq_getElem (show i < s.data.size from h)]
   rfl
 · have h1 : s.data[i]? = none := Array.getElem?_eq_none h
   rw [h1]
   unfold Ad
   split
   · rename_i b e
     exfalso
     simp only [getElem?_def] at e
     split at e
     · rename_i h2; exact absurd h2 (by show ¬ i < s.size; omega)
     · cases e
   · rfl
theorem Ee (s : ByteArray) (i j p : Nat) (h1 : p < j - i) (h2 : j ≤ s.size) : Ad (s.extract i j) p = Ad s (i + p) := by
 rw [EN, EN, ByteArray.data_extract, Array.getElem?_extract_of_lt (by show p < min j s.data.size - i; have : s.data.size = s.size := rfl; omega), Array.getElem?_eq_getElem (show i + p < s.data.size by have : s.data.size = s.size := rfl; omega)]
theorem size_extract (s : ByteArray) (i j : Nat) (h2 : j ≤ s.size) : (s.extract i j).size = j - i := by
 rw [ByteArray.size_extract]; omega
theorem J9 (s t : ByteArray) (p : Nat) (h : p < s.size) : Ad (s ++ t) p = Ad s p := by
 rw [EN, EN, ByteArray.data_append, Array.getElem?_append_left h]
theorem KA (s t : ByteArray) (p : Nat) : Ad (s ++ t) (s.size + p) = Ad t p := by
 rw [EN, EN, ByteArray.data_append, Array.getElem?_append_right (by show s.size ≤ s.size + p; omega)]
 rw [show s.size + p - s.data.size = p by have : s.data.size = s.size := rfl; omega]
theorem Ef (s t : ByteArray) (i : Nat) : ∀ k, (∀ p, p < k → Ad t p = Ad s (i + p)) → Ax s (i + k) = Ax s i + Ax t k
 | 0, _ => by simp [Ax]
 | k + 1, h => by
  rw [← Nat.add_assoc, Ax, Ax, Ef s t i k fun p hp => h p (by omega), h k (by omega)]
  omega
theorem KB (s t : ByteArray) : Ax (s ++ t) (s ++ t).size = Ax s s.size + Ax t t.size := by
 rw [ByteArray.size_append, Ef (s ++ t) t s.size t.size fun p _ => (KA s t p).symm]
 have := Ef (s ++ t) s 0 s.size fun p hp => by rw [Nat.zero_add]; exact (J9 s t p hp).symm
 rw [Nat.zero_add] at this
 rw [this]; simp [Ax]
theorem HX {s t : ByteArray} (hs : BL s = true) (ht : BL t = true) : BL (s ++ t) = true := by
 rw [GJ] at hs ht ⊢
 have h1 := hs.map (t := s ++ t) (a' := 0) (fun p _ hp => by rw [Nat.zero_add, Nat.sub_zero]; exact J9 s t p hp) (by rw [ByteArray.size_append]; omega)
 have h2 := ht.map (t := s ++ t) (a' := s.size) (fun p _ hp => by rw [Nat.sub_zero]; exact KA s t p) (by rw [ByteArray.size_append]; omega)
 rw [Nat.sub_zero, Nat.zero_add] at h1
 rw [Nat.sub_zero, ← ByteArray.size_append] at h2
 exact h1.trans h2
theorem Gy (s : ByteArray) : ∀ k u, u < Ax s k → ∃ o : Nat, (BS s k)[u]? = some (o : Int) ∧ o < k ∧ Dt (Ad s o) = true ∧ Ax s o = u
 | 0, u, h => by simp [Ax] at h
 | k + 1, u, h => by
  have hl := DE s k
  simp only [Ax, BS] at h ⊢
  split
  · rename_i hk
    rw [if_pos hk] at h
    rcases Nat.lt_or_ge u (Ax s k) with h1 | h1
    · obtain ⟨o, h2, h3, h4, h5⟩ := Gy s k u h1
      exact ⟨o, by rw [List.getElem?_append_left (by omega)]; exact h2, by omega, h4, h5⟩
    · have : u = Ax s k := by omega
      exact ⟨k, by rw [List.getElem?_append_right (by omega), this, hl]; simp, by omega, hk, this.symm⟩
  · rename_i hk
    rw [if_neg hk] at h
    obtain ⟨o, h2, h3, h4, h5⟩ := Gy s k u (by omega)
    exact ⟨o, h2, by omega, h4, h5⟩
theorem I0 {s : ByteArray} (hv : BL s = true) {u : Int} (h0 : 0 ≤ u) (h1 : u ≤ Ax s s.size) : ∃ o : Nat, (Bw s u).1.toNat = o ∧ o ≤ s.size ∧ BL (s.extract 0 o) = true ∧ BL (s.extract o s.size) = true ∧
 (Ax (s.extract 0 o) (s.extract 0 o).size : Int) = u ∧ (Ax (s.extract o s.size) (s.extract o s.size).size : Int) = Ax s s.size - u := by
 have key : ∃ o : Nat, (Bw s u).1.toNat = o ∧ o ≤ s.size ∧ Pw s o ∧ (Ax s o : Int) = u := by
  have hl := DE s s.size
  have e : (Bw s u).1 = (BS s s.size ++ [(s.size : Int)]).getD u.toNat 0 := by
   unfold Bw
   rw [if_neg (by rw [hv]; decide), if_neg (by omega)]
  rw [e, List.getD_eq_getElem?_getD]
  rcases Nat.lt_or_ge u.toNat (Ax s s.size) with h2 | h2
  · obtain ⟨o, k1, k2, k3, k4⟩ := Gy s s.size u.toNat h2
    refine ⟨o, by rw [List.getElem?_append_left (by omega), k1]; rfl, by omega, .inr k3, by omega⟩
  · have h3 : u.toNat = Ax s s.size := by omega
    refine ⟨s.size, by rw [List.getElem?_append_right (by omega), h3, hl]; simp, Nat.le_refl _, .inl rfl, by omega⟩
 obtain ⟨o, k1, k2, k3, k4⟩ := key
 obtain ⟨c1, c2⟩ := (GJ.1 hv).cut rfl o (Nat.zero_le _) k2 k3
 have z1 := size_extract s 0 o k2
 have z2 := size_extract s o s.size (Nat.le_refl _)
 refine ⟨o, k1, k2, ?_, ?_, ?_, ?_⟩
 · rw [GJ, z1]
   have := c1.map (t := s.extract 0 o) (a' := 0) (fun p _ hp => by rw [Nat.zero_add, Nat.sub_zero, Ee s 0 o p (by omega) k2, Nat.zero_add]) (by omega)
   rw [Nat.zero_add] at this; exact this
 · rw [GJ, z2]
   have := c2.map (t := s.extract o s.size) (a' := 0) (fun p hp1 hp => by rw [Nat.zero_add, Ee s o s.size (p - o) (by omega) (Nat.le_refl _)]; congr 1; omega) (by omega)
   rw [Nat.zero_add] at this; exact this
 · rw [z1]
   have := Ef s (s.extract 0 o) 0 o fun p hp => Ee s 0 o p (by omega) k2
   rw [Nat.zero_add] at this
   have e0 : Ax s 0 = 0 := rfl
   rw [Nat.sub_zero]; omega
 · rw [z2]
   have := Ef s (s.extract o s.size) o (s.size - o) fun p hp => Ee s o s.size p (by omega) (Nat.le_refl _)
   rw [show o + (s.size - o) = s.size by omega] at this
   omega
abbrev DK (b : Bool) : Nat := if b then 1 else 0
mutual
def AE.wt (u : AF → Bool) : AE → List Nat
 | .mk k _ _ t h f r => if k = 1 then List.replicate (if BL t then Ax t t.size else 0) (DK (u h)) else [DK (u h) + (if k = 6 then AE.wts u f else 0) + (if k = 7 then AS.wts u r else 0)]
def AE.wts (u : AF → Bool) : List AE → Nat
 | [] => 0
 | x :: l => (AE.wt u x).sum + AE.wts u l
def AS.wt (u : AF → Bool) : AS → Nat
 | .mk h c => DK (u h) + AK.wts u c
def AS.wts (u : AF → Bool) : List AS → Nat
 | [] => 0
 | x :: l => AS.wt u x + AS.wts u l
def AK.wt (u : AF → Bool) : AK → Nat
 | .mk _ h f => DK (u h) + AE.wts u f
def AK.wts (u : AF → Bool) : List AK → Nat
 | [] => 0
 | x :: l => AK.wt u x + AK.wts u l
end
section
variable (u : AF → Bool)
def Dr (l : List AE) : List Nat := l.flatMap (AE.wt u)
theorem FB : ∀ l : List AE, AE.wts u l = (Dr u l).sum
 | [] => by rw [AE.wts]; rfl
 | x :: l => by rw [AE.wts, FB l]; simp [Dr]
theorem G8 : ∀ l : List AS, AS.wts u l = (l.map (AS.wt u)).sum
 | [] => by rw [AS.wts]; rfl
 | x :: l => by rw [AS.wts, G8 l]; simp
theorem GK : ∀ l : List AK, AK.wts u l = (l.map (AK.wt u)).sum
 | [] => by rw [AK.wts]; rfl
 | x :: l => by rw [AK.wts, GK l]; simp
theorem DU (a b : List AE) : Dr u (a ++ b) = Dr u a ++ Dr u b := by simp [Dr]
theorem Eu (x : AE) (l : List AE) : Dr u (x :: l) = AE.wt u x ++ Dr u l := by simp [Dr]
theorem GU (x : AE) : AE.wt u x = if x.kind = 1 then List.replicate (if BL x.text then Ax x.text x.text.size else 0) (DK (u x.head)) else [DK (u x.head) + (if x.kind = 6 then AE.wts u x.flow else 0) + (if x.kind = 7 then AS.wts u x.rows else 0)] := by
 cases x; rw [AE.wt]; rfl
theorem SM (x : AE) : ((AE.wt u x).length : Int) = x.units := by
 rw [GU, AE.units]
 split
 · rw [List.length_replicate]; split <;> rfl
 · rfl
theorem FG : ∀ l : List AE, ((Dr u l).length : Int) = Au l
 | [] => rfl
 | x :: l => by rw [Eu, List.length_append, Au, ← FG l, ← SM u x]; omega
def val (x : AE) : Prop := BL x.text = true ∧ (x.kind = 7 → x.rows ≠ [])
theorem No {out : List AE} {x : AE} (ho : ∀ y ∈ out, val y) (hx : val x) : Dr u (Ar out x) = Dr u out ++ AE.wt u x ∧ ∀ y ∈ Ar out x, val y := by
 unfold Ar
 split
 · rename_i hd
   refine ⟨?_, ho⟩
   rcases hd with ⟨h7, h0⟩ | ⟨h1, h0⟩
   · exact absurd h0 (hx.2 h7)
   · rw [GU, if_pos h1, h0, hx.1]
     simp [Ax]
 · split
   · rename_i y hy
     have hout : out = out.dropLast ++ [y] := by obtain ⟨ys, hys⟩ := List.getLast?_eq_some_iff.1 hy; rw [hys]; simp
     split
     · rename_i hc
       obtain ⟨k1, k2, k3⟩ := hc
       have vy := ho y (List.mem_of_getLast? hy)
       have e : AE.wt u (y.addText x.text) = AE.wt u y ++ AE.wt u x := by
        rw [GU, GU u y, GU u x]
        have a1 : (y.addText x.text).kind = y.kind ∧ (y.addText x.text).text = y.text ++ x.text ∧ (y.addText x.text).head = y.head := ⟨rfl, rfl, rfl⟩
        rw [a1.1, a1.2.1, a1.2.2, if_pos k2, if_pos k2, if_pos k1, HX vy.1 hx.1, vy.1, hx.1, k3]
        simp only [if_true]
        rw [KB, List.replicate_append_replicate]
       refine ⟨?_, fun z hz => ?_⟩
       · rw [DU, Eu, e]
         conv => rhs; rw [hout]
         rw [DU, Eu]
         simp [Dr]
       · rcases List.mem_append.1 hz with hz | hz
         · exact ho z (List.dropLast_subset _ hz)
         · rw [List.mem_singleton.1 hz]
           exact ⟨HX vy.1 hx.1, fun h => absurd (show y.kind = 7 from h) (by omega)⟩
     · refine ⟨by rw [DU]; simp [Dr], fun z hz => ?_⟩
       rcases List.mem_append.1 hz with hz | hz
       · exact ho z hz
       · rw [List.mem_singleton.1 hz]; exact hx
   · refine ⟨by rw [DU]; simp [Dr], fun z hz => ?_⟩
     rcases List.mem_append.1 hz with hz | hz
     · exact ho z hz
     · rw [List.mem_singleton.1 hz]; exact hx
theorem QH : ∀ (l out : List AE), (∀ y ∈ out, val y) → (∀ y ∈ l, val y) → Dr u (l.foldl Ar out) = Dr u out ++ Dr u l
 | [], out, _, _ => by simp [Dr]
 | x :: l, out, ho, hl => by
  obtain ⟨h1, h2⟩ := No u ho (hl x (by simp))
  rw [List.foldl_cons, QH l _ h2 fun y hy => hl y (by simp [hy]), h1, Eu, List.append_assoc]
def DG : Nat → List AE → Prop
 | 0, _ => False
 | N + 1, l => ∀ x ∈ l, val x ∧ (x.kind = 6 → DG N x.flow) ∧ (x.kind = 7 → ∀ r ∈ x.rows, r.cells ≠ [] ∧ ∀ c ∈ r.cells, DG N c.flow)
def MO (N : Nat) (x : AE) : Prop := val x ∧ (x.kind = 6 → DG N x.flow) ∧ (x.kind = 7 → ∀ r ∈ x.rows, r.cells ≠ [] ∧ ∀ c ∈ r.cells, DG N c.flow)
theorem RN {N : Nat} {l : List AE} : DG (N + 1) l ↔ ∀ x ∈ l, MO N x := Iff.rfl
theorem HY {l : List AS} (h : ∀ r ∈ l, r.cells ≠ []) : (l.map AS.nrm).filter (fun r => !decide (r.cells.length = 0)) = l.map AS.nrm := by
 rw [List.filter_eq_self]
 intro r hr
 obtain ⟨r0, h0, rfl⟩ := List.mem_map.1 hr
 have er : (AS.nrm r0).cells = r0.cells.map AK.nrm := by cases r0; rw [AS.nrm, AK.nrmL_eq]; rfl
 rw [er, List.length_map]
 have := List.length_pos_iff.2 (h r0 h0)
 simp; intro e; rw [e] at this; simp at this
theorem Gq : ∀ {N : Nat} {l : List AE}, DG N l → Dr u (AU l) = Dr u l
 | 0, _, h => h.elim
 | N + 1, l, h => by
  rw [RN] at h
  have hn : ∀ x ∈ l, AE.wt u (AE.nrm x) = AE.wt u x ∧ val (AE.nrm x) := fun x hx => by
   obtain ⟨h1, h6, h7⟩ := h x hx
   obtain ⟨e0, _, e00, et, e1, e2, e3⟩ := AE.nrm_fields x
   refine ⟨?_, ?_⟩
   · rw [GU, GU u x, e0, et, e1, e2, e3]
     have f6 : (if x.kind = 6 then AE.wts u (AU x.flow) else 0) = if x.kind = 6 then AE.wts u x.flow else 0 := by
      by_cases k : x.kind = 6
      · rw [if_pos k, if_pos k, FB, FB, Gq (h6 k)]
      · rw [if_neg k, if_neg k]
     have f7 : (if x.kind = 7 then AS.wts u ((x.rows.map AS.nrm).filter fun r => !decide (r.cells.length = 0)) else 0) = if x.kind = 7 then AS.wts u x.rows else 0 := by
      by_cases k : x.kind = 7
      · rw [if_pos k, if_pos k, HY fun r hr => (h7 k r hr).1, G8, G8, List.map_map]
        congr 1
        refine List.map_congr_left fun r hr => ?_
        cases r with
        | mk rh rc =>
         have hc := (h7 k _ hr).2
         simp only [Function.comp]
         rw [AS.nrm, AS.wt, AS.wt, GK, GK, AK.nrmL_eq, List.map_map]
         congr 2
         refine List.map_congr_left fun c hcm => ?_
         have := hc c hcm
         cases c with
         | mk ci ch cf =>
          simp only [Function.comp]
          rw [AK.nrm, AK.wt, AK.wt, FB, FB]
          have e := Gq this
          unfold AU at e
          rw [show (AK.mk ci ch cf).flow = cf from rfl] at e
          rw [e]
      · rw [if_neg k, if_neg k]
     rw [f6, f7]
   · refine ⟨by rw [et]; exact h1.1, fun k => ?_⟩
     rw [e0] at k
     rw [e3, HY fun r hr => (h7 k r hr).1]
     have := h1.2 k
     simpa using this
  unfold AU Cz
  rw [AE.nrmL_eq, QH u _ [] (by simp) fun y hy => by obtain ⟨x, hx, rfl⟩ := List.mem_map.1 hy; exact (hn x hx).2]
  simp only [Dr, List.flatMap_nil, List.nil_append]
  rw [List.flatMap_map]
  have : ∀ l' : List AE, (∀ x ∈ l', x ∈ l) → l'.flatMap (fun a => AE.wt u (AE.nrm a)) = l'.flatMap (AE.wt u) := fun l' => by
   induction l' with
   | nil => intro _; rfl
   | cons a l' ih => intro hl; rw [List.flatMap_cons, List.flatMap_cons, ih fun x hx => hl x (by simp [hx]), (hn a (hl a (by simp))).1]
  exact this l fun _ h => h
theorem P1 (l : List AE) (cu : Int) (h0 : 0 ≤ cu) (hv : ∀ x ∈ l, BL x.text = true) : ∀ k, k ≤ l.length → Dr u (By l cu k).1 = (Dr u (l.take k)).take cu.toNat ∧ Dr u (By l cu k).2 = (Dr u (l.take k)).drop cu.toNat
 | 0, _ => by simp [By, Dr]
 | k + 1, hk => by
  obtain ⟨i1, i2⟩ := P1 l cu h0 hv k (by omega)
  have hget := ET 0 l k (by omega)
  have hlen := Hc 0 l
  have hst : By l cu (k + 1) = Bk cu (By l cu k) (0 + Au (l.take k), l[k]) := by
   unfold By
   obtain ⟨h1, h2⟩ := List.getElem?_eq_some_iff.1 hget
   rw [List.take_succ_eq_append_getElem h1, List.foldl_append, h2]; rfl
  have htk : Dr u (l.take (k + 1)) = Dr u (l.take k) ++ AE.wt u l[k] := by
   rw [List.take_succ_eq_append_getElem (by omega), DU]; simp [Dr]
  have hL := FG u (l.take k)
  have hU := SM u l[k]
  have hvx := hv l[k] (List.getElem_mem _)
  generalize Au (l.take k) = p at hst hL
  generalize l[k] = x at *
  rw [hst, htk]
  clear hst htk hget hlen
  generalize Dr u (l.take k) = A at *
  unfold Bk
  dsimp only
  by_cases c1 : 0 + p + x.units ≤ cu
  · rw [if_pos c1]
    refine ⟨?_, ?_⟩
    · rw [DU, i1, List.take_of_length_le (l := A) (by omega), List.take_of_length_le (l := A ++ AE.wt u x) (by rw [List.length_append]; omega)]; simp [Dr]
    · rw [i2, List.drop_of_length_le (l := A) (by omega), List.drop_of_length_le (l := A ++ AE.wt u x) (by rw [List.length_append]; omega)]
  · rw [if_neg c1]
    by_cases c2 : cu ≤ 0 + p
    · rw [if_pos c2]
      refine ⟨?_, ?_⟩
      · rw [i1, List.take_append_of_le_length (by omega)]
      · rw [DU, i2, List.drop_append_of_le_length (by omega)]; simp [Dr]
    · rw [if_neg c2]
      have k1 : x.kind = 1 := by
       by_cases k : x.kind = 1
       · exact k
       · have : x.units = 1 := by rw [AE.units, if_neg k]
         omega
      have hu : x.units = Ax x.text x.text.size := by rw [AE.units, if_pos k1, hvx]; rfl
      obtain ⟨o, e1, e2, v1, v2, n1, n2⟩ := I0 hvx (u := cu - (0 + p)) (by omega) (by omega)
      rw [e1]
      have w1 : ∀ t, BL t = true → AE.wt u (x.setText t) = List.replicate (Ax t t.size) (DK (u x.head)) := fun t ht => by
       rw [GU]
       have a1 : (x.setText t).kind = x.kind ∧ (x.setText t).text = t ∧ (x.setText t).head = x.head := ⟨rfl, rfl, rfl⟩
       rw [a1.1, a1.2.1, a1.2.2, if_pos k1, ht]; rfl
      have w0 : AE.wt u x = List.replicate (Ax x.text x.text.size) (DK (u x.head)) := by rw [GU, if_pos k1, hvx]; rfl
      refine ⟨?_, ?_⟩
      · rw [DU, i1, List.take_append, List.take_of_length_le (by omega : A.length ≤ cu.toNat), w0]
        simp only [Dr, List.flatMap_cons, List.flatMap_nil, List.append_nil]
        rw [w1 _ v1, List.take_replicate]
        congr 2
        omega
      · rw [DU, i2, List.drop_append, List.drop_of_length_le (by omega : A.length ≤ cu.toNat), w0]
        simp only [Dr, List.flatMap_cons, List.flatMap_nil, List.append_nil]
        rw [w1 _ v2, List.drop_replicate]
        congr 2
        omega
theorem MR (l : List AE) (cu : Int) (h0 : 0 ≤ cu) (hv : ∀ x ∈ l, BL x.text = true) : Dr u (Am l cu).1 = (Dr u l).take cu.toNat ∧ Dr u (Am l cu).2 = (Dr u l).drop cu.toNat := by
 have := P1 u l cu h0 hv l.length (Nat.le_refl _)
 rw [List.take_length] at this; exact this
end
section
variable (u : AF → Bool) (w : Bool) (it : Int → List AE → Bool → Nat) (mid : Bool)
abbrev Fh (w mid : Bool) (k : Nat) : Nat := if mid = w then k else 0
def QT (c : AK) : Nat := Fh w mid (DK (u c.head)) + it c.id c.flow mid
def QV (r : AS) : Nat := Fh w mid (DK (u r.head)) + (r.cells.map (QT u w it mid)).sum
def LP (x : AE) : Nat := if x.kind = 6 then it x.id x.flow mid else if x.kind = 7 then (x.rows.map (QV u w it mid)).sum else 0
def Ss (x : AE) : Nat := Fh w mid (DK (u x.head) * x.units.toNat) + LP u w it mid x
def E8 (l : List AE) : Nat := (l.map (Ss u w it mid)).sum
end
section
variable (u : AF → Bool) (w : Bool) (sc : BG)
def cw : Nat → Int → List AE → Bool → Nat
 | 0, _, _, _ => 0
 | N + 1, id, l, mid => if CJ sc id l mid then E8 u w (cw N) false (AR l 0 sc.a).1 + E8 u w (cw N) true (AR l sc.a sc.b).1 + E8 u w (cw N) false (AR l sc.b (Ap l).1).1 else E8 u w (cw N) mid l
theorem JA (it : Int → List AE → Bool → Nat) (mid : Bool) (a b : List AE) : E8 u w it mid (a ++ b) = E8 u w it mid a + E8 u w it mid b := by simp [E8]
theorem UZ (x : AE) : (AE.wt u x).sum = DK (u x.head) * x.units.toNat + (if x.kind = 6 then AE.wts u x.flow else if x.kind = 7 then AS.wts u x.rows else 0) := by
 rw [GU, AE.units]
 by_cases k1 : x.kind = 1
 · have e : ∀ n k : Nat, (List.replicate n k).sum = k * n := fun n k => by
    induction n with
    | zero => rfl
    | succ n ih => rw [List.replicate_succ, List.sum_cons, ih, Nat.mul_succ, Nat.add_comm]
   simp only [k1, if_true, e]
   cases BL x.text <;> simp
 · rw [if_neg k1, if_neg k1]
   by_cases k6 : x.kind = 6
   · have k7 : ¬ x.kind = 7 := by omega
     simp [k6]
   · simp [k6]
theorem Hu (mid : Bool) (a b : Nat) : Fh w mid (a + b) = Fh w mid a + Fh w mid b := by unfold Fh; split <;> simp
theorem JQ {α : Type} (mid : Bool) (f g : α → Nat) : ∀ l : List α, (∀ x ∈ l, g x = Fh w mid (f x)) → (l.map g).sum = Fh w mid (l.map f).sum
 | [], _ => by unfold Fh; split <;> rfl
 | x :: l, h => by rw [List.map_cons, List.map_cons, List.sum_cons, List.sum_cons, Hu, h x (by simp), JQ mid f g l fun y hy => h y (by simp [hy])]
theorem P5 (it : Int → List AE → Bool → Nat) (mid : Bool) (l : List AE) (h6 : ∀ x ∈ l, x.kind = 6 → it x.id x.flow mid = Fh w mid (AE.wts u x.flow)) (h7 : ∀ x ∈ l, x.kind = 7 → ∀ r ∈ x.rows, ∀ c ∈ r.cells, it c.id c.flow mid = Fh w mid (AE.wts u c.flow)) :
 E8 u w it mid l = Fh w mid (Dr u l).sum := by
 have e : (Dr u l).sum = (l.map fun x => (AE.wt u x).sum).sum := by
  clear h6 h7
  induction l with
  | nil => rfl
  | cons x l ih => rw [Eu, List.sum_append, ih]; rfl
 rw [e]
 unfold E8
 refine JQ w mid _ _ l fun x hx => ?_
 rw [UZ, Hu]
 unfold Ss LP
 congr 1
 by_cases k6 : x.kind = 6
 · rw [if_pos k6, if_pos k6]; exact h6 x hx k6
 · rw [if_neg k6, if_neg k6]
   by_cases k7 : x.kind = 7
   · rw [if_pos k7, if_pos k7, G8]
     refine JQ w mid _ _ _ fun r hr => ?_
     have := h7 x hx k7 r hr
     cases r with
     | mk rh rc =>
      rw [AS.wt, Hu, GK]
      unfold QV
      congr 1
      refine JQ w mid _ _ _ fun c hc => ?_
      have := this c hc
      cases c with
      | mk ci ch cf =>
       rw [AK.wt, Hu]
       unfold QT
       congr 1
   · rw [if_neg k7, if_neg k7]; unfold Fh; split <;> rfl
theorem Py : ∀ (N : Nat) (id : Int) (l : List AE) (mid : Bool), Dz (fun i => i ≠ sc.id) N l → DG N l → (mid = true ∨ id ≠ sc.id) → cw u w sc N id l mid = Fh w mid (AE.wts u l)
 | 0, _, _, _, _, h, _ => h.elim
 | N + 1, id, l, mid, hg, hd, hid => by
  have n1 : ¬ CJ sc id l mid = true := by rcases hid with rfl | h <;> simp [CJ, *]
  rw [cw, if_neg n1, FB]
  exact P5 u w _ mid l (fun x hx k6 => Py N _ _ _ (hg x hx).2.2.1 ((hd x hx).2.1 k6) (.inr ((hg x hx).2.1 k6))) (fun x hx k7 r hr c hc => Py N _ _ _ ((hg x hx).2.2.2 r hr c hc).2 (((hd x hx).2.2 k7 r hr).2 c hc) (.inr ((hg x hx).2.2.2 r hr c hc).1))
theorem QU (it : Int → List AE → Bool → Nat) (mid : Bool) {out : List AE} {x : AE} (ho : ∀ y ∈ out, val y) (hx : val x) : E8 u w it mid (Ar out x) = E8 u w it mid out + Ss u w it mid x := by
 have kt : ∀ y : AE, y.kind = 1 → Ss u w it mid y = Fh w mid (DK (u y.head) * y.units.toNat) := fun y k => by
  unfold Ss LP
  rw [if_neg (by omega), if_neg (by omega), Nat.add_zero]
 unfold Ar
 split
 · rename_i hd
   rcases hd with ⟨h7, h0⟩ | ⟨h1, h0⟩
   · exact absurd h0 (hx.2 h7)
   · rw [kt x h1]
     have : x.units = 0 := by rw [AE.units, if_pos h1, h0]; simp [Ax]
     rw [this]; unfold Fh; simp
 · split
   · rename_i y hy
     obtain ⟨ys, hys⟩ := List.getLast?_eq_some_iff.1 hy
     split
     · rename_i hc
       obtain ⟨k1, k2, k3⟩ := hc
       have vy := ho y (List.mem_of_getLast? hy)
       have a1 : (y.addText x.text).kind = y.kind ∧ (y.addText x.text).text = y.text ++ x.text ∧ (y.addText x.text).head = y.head := ⟨rfl, rfl, rfl⟩
       have e1 := kt (y.addText x.text) (by rw [a1.1]; exact k2)
       have u1 : (y.addText x.text).units.toNat = y.units.toNat + x.units.toNat := by
        simp only [AE.units, a1.1, a1.2.1, if_pos k1, if_pos k2, HX vy.1 hx.1, vy.1, hx.1, if_true]
        rw [KB]; omega
       rw [a1.2.2, u1] at e1
       rw [hys, List.dropLast_concat, JA, JA]
       simp only [E8, List.map_cons, List.map_nil, List.sum_cons, List.sum_nil, Nat.add_zero]
       rw [e1, kt y k2, kt x k1, k3, Nat.mul_add, Hu]; omega
     · rw [JA]; simp [E8]
   · rw [JA]; simp [E8]
theorem Ma (it : Int → List AE → Bool → Nat) (mid : Bool) : ∀ (l out : List AE), (∀ y ∈ out, val y) → (∀ y ∈ l, val y) → E8 u w it mid (l.foldl Ar out) = E8 u w it mid out + E8 u w it mid l
 | [], out, _, _ => by simp [E8]
 | x :: l, out, ho, hl => by
  have h2 := (No u ho (hl x (by simp))).2
  rw [List.foldl_cons, Ma it mid l _ h2 fun y hy => hl y (by simp [hy]), QU u w it mid ho (hl x (by simp))]
  simp [E8]; omega
end
def CI (l : List CF) : List SV := (l.map CF.enc).flatMap SV.cells
theorem EP (d : CF) (l : List CF) : CI (d :: l) = AA d.rev :: AA d.move :: CI l := by simp [CI, CF.enc, SV.cells]
theorem N7 (l : List CF) : (CI l).length = l.length * 2 := by
 have := BH (z := 2) (CF.E.size l)
 rw [List.length_map] at this; exact this
theorem MP (l : List CF) : ∀ i, (CI l).drop (i * 2) = CI (l.drop i) := by
 induction l with
 | nil => intro i; simp [CI]
 | cons d l ih =>
  intro i
  cases i with
  | zero => simp
  | succ i => rw [EP, show (i + 1) * 2 = i * 2 + 2 by omega, List.drop_succ_cons, List.drop_succ_cons, ih i, List.drop_succ_cons]
theorem QN (l : List CF) : ∀ i, (CI l).take (i * 2) = CI (l.take i) := by
 induction l with
 | nil => intro i; simp [CI]
 | cons d l ih =>
  intro i
  cases i with
  | zero => simp [CI]
  | succ i => rw [EP, show (i + 1) * 2 = i * 2 + 2 by omega, List.take_succ_cons, List.take_succ_cons, ih i, List.take_succ_cons, EP]
theorem RO (a b : List CF) : CI (a ++ b) = CI a ++ CI b := by unfold CI; rw [List.map_append, List.flatMap_append]
def Ua : CF := ⟨0, 0⟩
def HN (l : List CF) (i : Nat) : CF := l.getD i Ua
theorem P0 (l : List CF) (i : Nat) (hi : i < l.length) : (CI l).drop (i * 2) = AA (HN l i).rev :: AA (HN l i).move :: CI (l.drop (i + 1)) := by
 have e : HN l i = l[i] := by simp [HN, List.getD, hi]
 rw [MP, List.drop_eq_getElem_cons hi, EP, e]
theorem N8 (l : List CF) (i : Nat) (hi : i < l.length) (d : CF) : (CI l).take (i * 2) ++ (AA d.rev :: AA d.move :: (CI l).drop (i * 2 + 2)) = CI (l.set i d) := by
 rw [show i * 2 + 2 = (i + 1) * 2 by omega, MP, QN, List.set_eq_take_append_cons_drop, if_pos hi, RO, EP]
def JT (l : List CF) (j : Nat) : List CF := (l.set (j + 1) (HN l j)).set j (HN l (j + 1))
def FQ (l : List CF) : Nat → List CF
 | 0 => l
 | j + 1 => if (HN l (j + 1)).rev < (HN l j).rev then FQ (JT l j) j else l
def DB (l : List CF) : Nat → List CF
 | 0 => l
 | i + 1 => FQ (DB l i) i
theorem J4 (l : List CF) (j : Nat) : (JT l j).length = l.length := by simp [JT]
theorem Mq : ∀ (j : Nat) (l : List CF), (FQ l j).length = l.length
 | 0, l => rfl
 | j + 1, l => by rw [FQ]; split; rw [Mq j, J4]; rfl
theorem Gn (l : List CF) : ∀ i, (DB l i).length = l.length
 | 0 => rfl
 | i + 1 => by rw [DB, Mq, Gn l i]
theorem c120 (a b : CF) : PC 120 [a.enc, b.enc] (AA (HU a.rev b.rev)) := by
 intro h n
 refine gq Tryz.func120 rfl fun ho => ?_
 have hh : ∀ y z, ∀ o x, h o = some x → hset (hset h n y) (n + 1) z o = some x := fun y z => AO ho (by omega) (AO ho (Nat.le_refl _) AB)
 have q : n ≠ n + 1 := by omega
 simp [go_sem, CF.enc, AC, AD]
 refine (Sa a.rev b.rev).use ?_
 simp [go_sem]
 exact Av ho (hh _ _) rfl rfl
set_option maxHeartbeats 4000000 in
theorem d254 (l : List CF) (hl0 : 1 ≤ l.length) (hl : l.length ≤ 1048576) {H : Hp} {n o : Nat} {full : Bool} (hH : H o = some (.cells (CI l))) :
 BO Tryz.prog 254 [.sl o 0 2 l.length full, AA 0, AA l.length, .fn (.func 120) [] []] H n (fun v h' n' => v = .tup [] ∧ h' = hset H o (some (.cells (CI (DB l l.length)))) ∧ n' = n) := by
 refine ED Tryz.func254 rfl fun ho => ?_
 have hHb := ho.lt
 have hon := hHb o _ hH
 have hcl : ∀ L : List CF, closedL n (CI L) = true := fun L => by
  induction L with
  | nil => rfl
  | cons d L ih => rw [EP]; simp [closedL, closed, ih]
 obtain ⟨G, hG⟩ : ∃ G : List CF → Hp, ∀ L, G L = hset H o (some (.cells (CI L))) := ⟨_, fun _ => rfl⟩
 have hGo : ∀ L, G L o = some (.cells (CI L)) := fun L => by rw [hG, AC]
 have hGs : ∀ L L', hset (G L) o (some (.cells (CI L'))) = G L' := fun L L' => by rw [hG, hG, Aq]
 have hOld : ∀ L, Fd (G L) n := fun L j y e => by
  rw [hG] at e; simp only [hset] at e
  split at e
  · subst_vars; cases e; exact ⟨hon, hcl L⟩
  · exact ho j y e
 have hGH : G l = H := by rw [hG]; funext j; simp only [hset]; split; subst_vars; exact hH.symm; rfl
 refine Ae 0 [(0, .sl o 0 2 l.length full), (1, AA 0), (2, AA l.length), (3, .fn (.func 120) [] []), (8, AA 1)] (G l) n ?_ (fun m hm => ?_)
 · rw [hGH]; simp [go_sem, Fz.same, show IntKind.i64.wrap 1 = 1 from by decide]
 refine Ab (Bf 0 (α := Nat) (fun i => [(0, .sl o 0 2 l.length full), (1, AA 0), (2, AA l.length), (3, .fn (.func 120) [] []), (8, AA i)]) (fun i => G (DB l i)) (fun i m => 1 ≤ i ∧ i ≤ l.length ∧ n ≤ m) (fun i => l.length - i) 1 ⟨by omega, by omega, hm⟩ ?_ AB ?_)
 · simp [Ai, Fz.same]
 rintro i m ⟨hi1, hi2, hm⟩
 have hlen := Gn l i
 by_cases hlt : i < l.length
 · have w1 := wS i (by omega)
   have hnx : DB l (i + 1) = FQ (DB l i) i := rfl
   generalize DB l i = S at hlen hnx
   refine Bs 0 [(0, .sl o 0 2 l.length full), (1, AA 0), (2, AA l.length), (3, .fn (.func 120) [] []), (8, AA i)] (G S) n (AH ?_) (fun m2 hm2 => ?_)
   · simp [go_sem, Fz.same, hlt, hm]
   refine AX 0 (α := Unit) (fun _ => [(0, .sl o 0 2 l.length full), (1, AA 0), (2, AA l.length), (3, .fn (.func 120) [] []), (8, AA i)]) (fun _ => G (FQ S i)) (fun _ m2 => n ≤ m2) (Ab ?_) (fun _ m2 hm2 => ?_)
   · refine Ae 0 [(0, .sl o 0 2 l.length full), (1, AA 0), (2, AA l.length), (3, .fn (.func 120) [] []), (8, AA i), (9, AA i)] (G S) n ?_ (fun m2 hm2 => ?_)
     · simp [go_sem, Fz.same, hm2]
     refine Ab (Bf 0 (α := Nat × List CF) (fun q => [(0, .sl o 0 2 l.length full), (1, AA 0), (2, AA l.length), (3, .fn (.func 120) [] []), (8, AA i), (9, AA q.1)]) (fun q => G q.2) (fun q m => q.1 ≤ i ∧ q.2.length = l.length ∧ FQ q.2 q.1 = FQ S i ∧ n ≤ m) (fun q => q.1) (i, S) ⟨by omega, hlen, rfl, hm2⟩ ?_ AB ?_)
     · simp [Ai, Fz.same]
     rintro ⟨j, L⟩ m3 ⟨hj, hL, hs, hm3⟩
     dsimp only at hj hL hs ⊢
     refine Gt ?_
     cases j with
     | zero =>
      rw [FQ] at hs
      refine Bs 0 [(0, .sl o 0 2 l.length full), (1, AA 0), (2, AA l.length), (3, .fn (.func 120) [] []), (8, AA i), (34, .bool false)] (G L) n (AH ?_) (fun m2 hm2 => ?_)
      · simp [go_sem]
        repeat first | refine nq ?_ | refine sq ?_ | refine aq ?_
        simp [go_sem, hm3]
      refine Ak (b := false) (by simp [go_sem]) (AH ?_)
      simp [go_sem, Fz.same]
      rw [← hs]
      exact ⟨hm2, AB⟩
     | succ j =>
      have w2 : IntKind.i64.wrap (((j + 1 : Nat) : Int) - 1) = (j : Int) := by rw [C8] <;> omega
      have w3 : IntKind.i64.wrap (j : Int) = j := by rw [C8] <;> omega
      have e1 := P0 L (j + 1) (by omega)
      have e2 := P0 L j (by omega)
      have hLl := N7 L
      refine Bs 0 [(0, .sl o 0 2 l.length full), (1, AA 0), (2, AA l.length), (3, .fn (.func 120) [] []), (8, AA i), (9, AA (j + 1 : Nat)), (34, .bool (decide ((HN L (j + 1)).rev < (HN L j).rev)))] (G L) n (AH ?_) (fun m2 hm2 => ?_)
      · have f1 : (j : Int) + 1 < l.length := by omega
        have f2 : (j : Int) < l.length := by omega
        have f3 : (0 : Int) ≤ (j : Int) + 1 := by omega
        have f4 : (0 : Int) < (j : Int) + 1 := by omega
        have f5 : ((j : Int) + 1).toNat = j + 1 := by omega
        have t1 : ((CI L).drop ((j + 1) * 2)).take 2 = [AA (HN L (j + 1)).rev, AA (HN L (j + 1)).move] := by rw [e1]; rfl
        have t2 : ((CI L).drop (j * 2)).take 2 = [AA (HN L j).rev, AA (HN L j).move] := by rw [e2]; rfl
        have l1 : (j + 1) * 2 + 2 ≤ (CI L).length := by omega
        have l2 : j * 2 + 2 ≤ (CI L).length := by omega
        simp [go_sem, w3, hGo, f1, f2, f3, f4, f5, t1, t2, l1, l2]
        repeat first | refine nq ?_ | refine sq ?_ | refine aq ?_
        refine Bg.pure _ _ _ _ _ _ (by simpa [CF.enc] using c120 (HN L (j + 1)) (HN L j)) ?_
        simp [go_sem]
        repeat first | refine nq ?_ | refine sq ?_ | refine aq ?_
        have hc : ∀ a b : Int, decide (HU a b < 0) = decide (a < b) := fun a b => by
         unfold HU
         by_cases h1 : a < b
         · simp [h1]
         · by_cases h2 : b < a <;> simp [h1, h2]
        rw [hc]
        exact Fz.same
      by_cases hc : (HN L (j + 1)).rev < (HN L j).rev
      · refine Ak (b := true) (by simp [go_sem, hc]) ?_
        rw [if_pos rfl]
        refine GZ ?_
        rw [Eo]
        have hs' : FQ (JT L j) j = FQ S i := by rw [FQ, if_pos hc] at hs; exact hs
        refine AX 0 (α := Unit) (fun _ => [(0, .sl o 0 2 l.length full), (1, AA 0), (2, AA l.length), (3, .fn (.func 120) [] []), (8, AA i), (9, AA (j + 1 : Nat))]) (fun _ => G (JT L j)) (fun _ m2 => n ≤ m2) (Ab (AH ?_)) (fun _ m4 hm4 => ?_)
        · have f1 : (j : Int) + 1 < l.length := by omega
          have f2 : (j : Int) < l.length := by omega
          have f3 : (0 : Int) ≤ (j : Int) + 1 := by omega
          have f5 : ((j : Int) + 1).toNat = j + 1 := by omega
          have t1 : ((CI L).drop ((j + 1) * 2)).take 2 = [AA (HN L (j + 1)).rev, AA (HN L (j + 1)).move] := by rw [e1]; rfl
          have t2 : ((CI L).drop (j * 2)).take 2 = [AA (HN L j).rev, AA (HN L j).move] := by rw [e2]; rfl
          have l1 : (j + 1) * 2 + 2 ≤ (CI L).length := by omega
          have l2 : j * 2 + 2 ≤ (CI L).length := by omega
          have s1 := N8 L (j + 1) (by omega) (HN L j)
          have s2 := N8 (L.set (j + 1) (HN L j)) j (by rw [List.length_set]; omega) (HN L (j + 1))
          have l3 : j * 2 + 2 ≤ (CI (L.set (j + 1) (HN L j))).length := by rw [N7, List.length_set]; omega
          have hsw : (L.set (j + 1) (HN L j)).set j (HN L (j + 1)) = JT L j := rfl
          rw [hsw] at s2
          generalize L.set (j + 1) (HN L j) = L2 at *
          simp [go_sem, w3, hGo, f1, f2, f3, f5, t1, t2, l1, l2, s1, s2, l3, hGs]
          repeat first | refine nq ?_ | refine sq ?_ | refine aq ?_
          exact hm2
        · refine AH ?_
          simp [go_sem, w2, Fz.same, -Int.natCast_add]
          exact ⟨j, by omega, JT L j, ⟨by omega, by rw [J4, hL], hs', hm4⟩, Fz.same, AB⟩
      · refine Ak (b := false) (by simp [go_sem, hc]) (AH ?_)
        have hs' : L = FQ S i := by rw [FQ, if_neg hc] at hs; exact hs
        simp [go_sem, Fz.same]
        rw [← hs']
        exact ⟨hm2, AB⟩
   · refine AH ?_
     simp [go_sem, w1, Fz.same, -Int.natCast_add]
     exact ⟨i + 1, by omega, ⟨by omega, by omega⟩, Fz.same, by rw [hnx]; exact AB⟩
 · have : i = l.length := by omega
   subst this
   refine AH ?_
   simp [go_sem]
   have := Cb (hOld (DB l l.length)) (n' := m) (v := .tup []) (by simp [closed, closedL]) AB
   rw [hG] at this ⊢
   exact this
theorem d188 (l : List CF) (hl0 : 1 ≤ l.length) (hl : l.length < 20) {H : Hp} {n o : Nat} {full : Bool} (hH : H o = some (.cells (CI l))) :
 BO Tryz.prog 188 [.sl o 0 2 l.length full, AA l.length, .fn (.func 120) [] []] H n (fun v h' n' => v = .tup [] ∧ h' = hset H o (some (.cells (CI (DB l l.length)))) ∧ n' = n) := by
 refine ED Tryz.func188 rfl fun ho => ?_
 have hHb := ho.lt
 have hon := hHb o _ hH
 have hcl : ∀ L : List CF, closedL n (CI L) = true := fun L => by
  induction L with
  | nil => rfl
  | cons d L ih => rw [EP]; simp [closedL, closed, ih]
 have hOld : Fd (hset H o (some (.cells (CI (DB l l.length))))) n := fun j y e => by
  simp only [hset] at e
  split at e
  · subst_vars; cases e; exact ⟨hon, hcl _⟩
  · exact ho j y e
 refine Ae 0 [(0, .sl o 0 2 l.length full), (1, AA l.length), (2, .fn (.func 120) [] []), (6, AA 20)] H n ?_ (fun m hm => ?_)
 · simp [go_sem, Fz.same]
 refine Ae 0 [(0, .sl o 0 2 l.length full), (1, AA l.length), (2, .fn (.func 120) [] []), (6, AA 20), (7, AA 0), (8, AA 20)] H n ?_ (fun m hm => ?_)
 · simp [go_sem, Fz.same, hm]
 refine Bs 0 [(0, .sl o 0 2 l.length full), (1, AA l.length), (2, .fn (.func 120) [] []), (6, AA 20), (7, AA 0), (8, AA 20)] H n (AH ?_) (fun m hm => ?_)
 · simp [go_sem]
   refine An 0 (α := Unit) (fun _ => [(0, .sl o 0 2 l.length full), (1, AA l.length), (2, .fn (.func 120) [] []), (6, AA 20), (7, AA 0), (8, AA 20)]) (fun _ => H) (fun _ m => n ≤ m) (fun _ => 0) () hm ?_ AB ?_
   · simp [Ai, Fz.same]
   rintro _ m hm
   have : ¬ ((20 : Int) ≤ l.length) := by omega
   simp [go_sem, Fz.same, hm, this]
 refine Bs 0 [(1, AA l.length), (6, AA 20)] (hset H o (some (.cells (CI (DB l l.length))))) n (AH ?_) (fun m hm => ?_)
 · simp [go_sem]
   refine SC.use (d254 l hl0 (by omega) hH) ?_
   rintro v H' n' ⟨rfl, rfl, rfl⟩
   simp [go_sem, Fz.same, hm]
 refine AH ?_
 simp [go_sem]
 refine An 0 (α := Unit) (fun _ => [(1, AA l.length), (6, AA 20)]) (fun _ => hset H o (some (.cells (CI (DB l l.length))))) (fun _ m => n ≤ m) (fun _ => 0) () hm ?_ AB ?_
 · simp [Ai, Fz.same]
 rintro _ m hm
 have : ¬ ((20 : Int) < l.length) := by omega
 simp [go_sem, this]
 exact Cb hOld (by simp [closed, closedL]) AB
theorem d119 (l : List CF) (hl0 : 1 ≤ l.length) (hl : l.length < 20) {H : Hp} {n o : Nat} {full : Bool} (hH : H o = some (.cells (CI l))) :
 BO Tryz.prog 119 [.sl o 0 2 l.length full, .fn (.func 120) [] []] H n (fun v h' n' => v = .tup [] ∧ h' = hset H o (some (.cells (CI (DB l l.length)))) ∧ n' = n) := by
 refine ED Tryz.func119 rfl fun ho => ?_
 have hHb := ho.lt
 have hon := hHb o _ hH
 have hcl : ∀ L : List CF, closedL n (CI L) = true := fun L => by
  induction L with
  | nil => rfl
  | cons d L ih => rw [EP]; simp [closedL, closed, ih]
 have hOld : Fd (hset H o (some (.cells (CI (DB l l.length))))) n := fun j y e => by
  simp only [hset] at e
  split at e
  · subst_vars; cases e; exact ⟨hon, hcl _⟩
  · exact ho j y e
 refine AH ?_
 simp [go_sem]
 refine SC.use (d188 l hl0 hl hH) ?_
 rintro v H' n' ⟨rfl, rfl, rfl⟩
 simp [go_sem]
 exact Cb hOld (by simp [closed, closedL]) AB
def TD : Tr := .pure 8 (.pure 9 (.one 7 (.one 10 (.one 11 (.one 12 (.one 13 .nil))))))
def trH : Tr := .pure 0 (.pure 1 (.pure 4 (.pure 5 (.two 2 6 (.two 3 6 (.one 6 TD) (.one 3 TD)) (.one 2 (.one 3 TD))))))
abbrev TK : BV := .cells [.imm 0 [] true, AA 0, AA 0, .imm 0 [] true, .imm 0 [] true]
set_option maxHeartbeats 4000000 in
theorem a118 (x : AF) (hs : x.sized) {h : Hp} {n : Nat} : BO Tryz.prog 118 [x.enc] h n (fun v h' n' => ∃ v1 o1 v2 o2, v = .agg [Ah x.props, AA x.ins, AA x.move, v1, v2] ∧ Gs 2 (x.dels.map CF.enc) v1 o1 n n' ∧ Gs 4 (x.layers.map BD.enc) v2 o2 n n' ∧
 (∀ j, o1 = some j → o2 ≠ some j) ∧ n ≤ n' ∧ ∀ j y, Dh (x.layers.map BD.enc) o2 (Dh (x.dels.map CF.enc) o1 h) j = some y → h' j = some y) := by
 refine ED Tryz.func118 rfl fun ho => ?_
 have hHb := ho.lt
 have q1 : n ≠ n + 1 := by omega
 refine Bn 0 [(1, .ptr n 0), (2, .ptr (n + 1) 0)] (hset (hset h n (some (.cells x.flat))) (n + 1) (some TK)) (fun m => n + 2 = m) ?_ (fun m hm => ?_)
 · simp [go_sem, AF.enc, AF.flat, Fz.same]
 subst hm
 refine Bn 0 [(1, .ptr n 0), (2, .ptr (n + 1) 0)] (hset (hset h n (some (.cells x.flat))) (n + 1) (some TK)) (fun m => n + 2 ≤ m) ?_ (fun m hm => ?_)
 · simp [go_sem, AF.flat, AD _ _ q1, AC]
   refine (Ts _ hs.props).use ?_
   simp [go_sem, AD _ _ q1, AC, Fz.same]
   intro j y; simp only [hset]; grind
 refine AX 0 (α := SV × Option Nat × SV × Option Nat) (fun _ => [(1, .ptr n 0), (2, .ptr (n + 1) 0)])
  (fun a => Dh (x.layers.map BD.enc) a.2.2.2 (Dh (x.dels.map CF.enc) a.2.1 (hset (hset h n (some (.cells [Ah x.props, AA x.ins, AA x.move, a.1, a.2.2.1]))) (n + 1) (some TK))))
  (fun a m' => Gs 2 (x.dels.map CF.enc) a.1 a.2.1 (n + 2) m' ∧ Gs 4 (x.layers.map BD.enc) a.2.2.1 a.2.2.2 (n + 2) m' ∧ (∀ j, a.2.1 = some j → a.2.2.2 ≠ some j) ∧ n + 2 ≤ m') (CK trH rfl (by kernel_rfl) (by kernel_rfl) ?_) ?_
 · have hG1 : hset (hset h n (some (.cells x.flat))) (n + 1) (some TK) n = some (.cells [Ah x.props, AA x.ins, AA x.move, Ao x.dels, AV x.layers]) := by rw [AD _ _ q1, AC]; rfl
   simp [go_sem, trH, TD, hG1]
   iterate 8 (all_goals (try first
    | (refine LC.use (l186 _ hs.dels) ?_; intro v1 H1 m1 W1; have lt1 := W1.1; obtain ⟨o1, a1, b1, c1⟩ := W1.own; obtain ⟨s1, t1⟩ := a1.st; simp only [SV.storable, SV.cells] at s1 t1; (first | have hq := b1 n _ hq2 | have hq := b1 n _ hG1); simp [go_sem, hq])
    | (refine LC.use (l187 _ hs.layers) ?_; intro v2 H2 m2 W2; have LT := W2.1; obtain ⟨o2, a2, b2, c2⟩ := W2.own; obtain ⟨s2, t2⟩ := a2.st; simp only [SV.storable, SV.cells] at s2 t2; (first | have hq2 := b2 n _ hq | have hq2 := b2 n _ hG1); simp [go_sem, hq2, s2, t2])
    | refine ⟨?_, ?_⟩))
   all_goals
    have L1 := a1.lt
    have L2 := a2.lt
    simp [go_sem, s1, t1, AC, Aq]
    refine ⟨v1, o1, v2, o2, ⟨a1.mono (by omega) (by omega), a2.mono (by omega) (by omega), fun j e e' => ?_, ?_⟩, fun j y => ?_⟩
    · have := L1 _ e; have := L2 _ e'; omega
    · omega
    · intro hy
      have r1 := b1 j
      have r2 := b2 j
      have q3 := c1 j
      have q4 := c2 j
      have r3 := L1 j
      have r4 := L2 j
      have q6 := hHb j y
      clear b1 b2 c1 c2 L1 L2 W1 W2 a1 a2
      simp only [hset] at *
      cases o1 <;> cases o2 <;> simp only [Dh, hset] at hy <;> grind
 rintro ⟨v1, o1, v2, o2⟩ m ⟨a1, a2, h12, hm⟩
 dsimp only at a1 a2 h12 hm ⊢
 have L1 := a1.lt
 have L2 := a2.lt
 obtain ⟨s1, t1⟩ := a1.st
 obtain ⟨s2, t2⟩ := a2.st
 simp only [SV.storable, SV.cells] at s1 t1 s2 t2
 generalize hB : Dh (x.layers.map BD.enc) o2 (Dh (x.dels.map CF.enc) o1 (hset (hset h n (some (.cells [Ah x.props, AA x.ins, AA x.move, v1, v2]))) (n + 1) (some TK))) = B
 have B0 : B n = some (.cells [Ah x.props, AA x.ins, AA x.move, v1, v2]) := by
  rw [← hB]
  have r3 := L1 n
  have r4 := L2 n
  cases o1 <;> cases o2 <;> simp only [Dh, hset] <;> grind
 have B1 : B (n + 1) = some TK := by
  rw [← hB]
  have r3 := L1 (n + 1)
  have r4 := L2 (n + 1)
  cases o1 <;> cases o2 <;> simp only [Dh, hset] <;> grind
 have B2 : ∀ j y, Dh (x.layers.map BD.enc) o2 (Dh (x.dels.map CF.enc) o1 h) j = some y → hset B (n + 1) (some (.cells [Ah x.props, AA x.ins, AA x.move, v1, v2])) j = some y := fun j y => by
  rw [← hB]
  have r3 := L1 j
  have r4 := L2 j
  have q6 := hHb j y
  cases o1 <;> cases o2 <;> simp only [Dh, hset] <;> grind
 refine AH ?_
 simp [go_sem, B0, B1, AC]
 exact .inl ⟨v1, o1, v2, rfl, a1.mono (by omega) (Nat.le_refl _), o2, a2.mono (by omega) (Nat.le_refl _), h12, by omega, B2⟩
theorem N3 {z k i : Nat} {es : List SV} {e e' c : SV} (hs : ∀ e ∈ es, e.storable = true ∧ e.cells.length = z) (h : es[i]? = some e) (hk : k < z) (he : e'.cells = e.cells.take k ++ c :: e.cells.drop (k + 1)) :
 (es.flatMap SV.cells).take (i * z + k) ++ c :: (es.flatMap SV.cells).drop (i * z + k + 1) = (es.set i e').flatMap SV.cells := by
 have hi := (List.getElem?_eq_some_iff.1 h).1
 have hee := (List.getElem?_eq_some_iff.1 h).2
 have hez := (hs e (List.mem_of_getElem? h)).2
 have h1 : es = es.take i ++ e :: es.drop (i + 1) := by rw [← hee, List.getElem_cons_drop, List.take_append_drop]
 have hl : ((es.take i).flatMap SV.cells).length = i * z := by
  rw [BH (z := z) fun e he => hs e (List.mem_of_mem_take he), List.length_take, Nat.min_eq_left (by omega)]
 rw [List.set_eq_take_append_cons_drop, if_pos hi]
 have h2 : es.flatMap SV.cells = (es.take i).flatMap SV.cells ++ (e.cells ++ (es.drop (i + 1)).flatMap SV.cells) := by
  conv => lhs; rw [h1]
  simp
 rw [h2, List.flatMap_append, List.flatMap_cons, he]
 generalize (es.take i).flatMap SV.cells = A at hl ⊢
 generalize (es.drop (i + 1)).flatMap SV.cells = B
 rw [← hl, List.take_append, List.drop_append, List.take_of_length_le (by omega : A.length ≤ A.length + k), List.drop_of_length_le (by omega : A.length ≤ A.length + k + 1)]
 rw [show A.length + k - A.length = k by omega, show A.length + k + 1 - A.length = k + 1 by omega, List.take_append_of_le_length (by omega), List.drop_append_of_le_length (by omega)]
 simp
def L9 (p : Int → Bool) (id y : Int) : Int := if p y then id else y
def CM (p : Int → Bool) (id : Int) (d : CF) : CF := { d with rev := L9 p id d.rev }
def B7 (p : Int → Bool) (id : Int) (d : BD) : BD := { d with rev := L9 p id d.rev }
def GA (p : Int → Bool) (id y : Int) : Int := if y ≠ 0 ∧ p y = true then id else y
def Hj (p : Int → Bool) (id : Int) (h : AF) : AF := { h with ins := GA p id h.ins, dels := DB (h.dels.map (CM p id)) h.dels.length, layers := h.layers.map (B7 p id) }
def D7 {α : Type} (f : α → α) (l : List α) (i : Nat) : List α := (l.take i).map f ++ l.drop i
theorem LW {α : Type} (f : α → α) (l : List α) : D7 f l 0 = l := by simp [D7]
theorem Mf {α : Type} (f : α → α) (l : List α) : D7 f l l.length = l.map f := by simp [D7]
theorem Mh {α : Type} (f : α → α) (l : List α) (i : Nat) (hi : i ≤ l.length) : (D7 f l i).length = l.length := by simp [D7]; omega
theorem Mg {α : Type} (f : α → α) (l : List α) (i : Nat) (hi : i < l.length) : (D7 f l i)[i]? = some l[i] := by
 simp only [D7]
 rw [List.getElem?_append_right (by simp; omega)]
 simp [Nat.min_eq_left (Nat.le_of_lt hi), hi]
theorem LV {α : Type} (f : α → α) (l : List α) (i : Nat) (hi : i < l.length) : (D7 f l i).set i (f l[i]) = D7 f l (i + 1) := by
 simp only [D7]
 rw [List.set_append_right _ _ (by simp; omega)]
 have : ((l.take i).map f).length = i := by simp; omega
 rw [this, Nat.sub_self, List.drop_eq_getElem_cons hi, List.set_cons_zero, List.take_succ_eq_append_getElem hi, List.map_append, List.map_cons, List.map_nil, List.append_assoc]
 rfl
theorem c254v (v0 : SV) : PC 254 [v0, AA 0, AA 0, .fn (.func 120) [] []] (.tup []) := by
 intro h n
 refine gq Tryz.func254 rfl fun ho => ?_
 simp [go_sem]
 refine An 1 (α := Unit) (fun k => [(2, AA 0), (8, AA 1)]) (fun _ => h) (fun k m => n ≤ m) (fun k => 0) () ?_ ?_ AB ?_
 · omega
 · simp [Ai, show IntKind.i64.wrap 1 = 1 from by decide, Fz.same]
 rintro _ m hm
 simp [go_sem]
 exact Av ho AB rfl rfl
theorem c188v (v0 : SV) : PC 188 [v0, AA 0, .fn (.func 120) [] []] (.tup []) := by
 intro h n
 refine gq Tryz.func188 rfl fun ho => ?_
 simp [go_sem]
 refine An 1 (α := Unit) (fun k => [(0, v0), (1, AA 0), (2, .fn (.func 120) [] []), (6, AA 20), (7, AA 0), (8, AA 20)]) (fun _ => h) (fun k m => n ≤ m) (fun k => 0) () ?_ ?_ AB ?_
 · omega
 · simp [Ai]
 rintro _ m hm
 simp [go_sem]
 refine PC.use (c254v v0) ?_
 simp [go_sem]
 refine An 1 (α := Unit) (fun k => [(1, AA 0), (6, AA 20)]) (fun _ => h) (fun k m => n ≤ m) (fun k => 0) () ?_ ?_ AB ?_
 · omega
 · simp [Ai]
 rintro _ m hm
 simp [go_sem]
 exact Av ho AB rfl rfl
theorem c119v (o : Nat) (full : Bool) : PC 119 [.sl o 0 2 0 full, .fn (.func 120) [] []] (.tup []) := by
 intro h n
 refine gq Tryz.func119 rfl fun ho => ?_
 simp [go_sem]
 refine PC.use (c188v _) ?_
 simp [go_sem]
 exact Av ho AB rfl rfl
def NO (l : List BD) : List SV := (l.map BD.enc).flatMap SV.cells
def Q5 (x : AF) (h : Hp) (n : Nat) (v1 : SV) (o1 : Option Nat) (v2 : SV) (o2 : Option Nat) (y : Int) (E : List CF) (F : List BD) : Hp :=
 Dh (F.map BD.enc) o2 (Dh (E.map CF.enc) o1 (hset (hset h n (some (.cells [Ah x.props, AA y, AA x.move, v1, v2]))) (n + 1) (some TK)))
structure RnW (x : AF) (h : Hp) (n : Nat) (v1 : SV) (o1 : Option Nat) (v2 : SV) (o2 : Option Nat) (W : Int → List CF → List BD → Hp) : Prop where
 w0 : ∀ y E F, W y E F n = some (.cells [Ah x.props, AA y, AA x.move, v1, v2])
 w1 : ∀ y E F, W y E F (n + 1) = some TK
 wd : ∀ j, o1 = some j → ∀ y E F, W y E F j = some (.cells (CI E))
 wl : ∀ j, o2 = some j → ∀ y E F, W y E F j = some (.cells (NO F))
 sy : ∀ y z E F, hset (W y E F) n (some (.cells [Ah x.props, AA z, AA x.move, v1, v2])) = W z E F
 sd : ∀ j, o1 = some j → ∀ y E F E', hset (W y E F) j (some (.cells (CI E'))) = W y E' F
 sl : ∀ j, o2 = some j → ∀ y E F F', hset (W y E F) j (some (.cells (NO F'))) = W y E F'
 old : ∀ y E F j z, h j = some z → W y E F j = some z
theorem rnW {x : AF} {h : Hp} {n m : Nat} {v1 v2 : SV} {o1 o2 : Option Nat} {es1 es2 : List SV} (hb : ∀ j y, h j = some y → j < n) (a1 : Gs 2 es1 v1 o1 (n + 2) m) (a2 : Gs 4 es2 v2 o2 (n + 2) m) (h12 : ∀ j, o1 = some j → o2 ≠ some j) : RnW x h n v1 o1 v2 o2 (Q5 x h n v1 o1 v2 o2) := by
 have L1 := a1.lt
 have L2 := a2.lt
 clear a1 a2
 constructor
 · intro y E F
   have r3 := L1 n
   have r4 := L2 n
   cases o1 <;> cases o2 <;> simp only [Q5, Dh, hset] <;> grind
 · intro y E F
   have r3 := L1 (n + 1)
   have r4 := L2 (n + 1)
   cases o1 <;> cases o2 <;> simp only [Q5, Dh, hset] <;> grind
 · intro j e y E F
   subst e
   have r4 := h12 j rfl
   cases o2 <;> simp only [Q5, Dh, hset, CI] <;> grind
 · intro j e y E F
   subst e
   cases o1 <;> simp only [Q5, Dh, hset, NO] <;> grind
 · intro y z E F
   funext j
   have r3 := L1 n
   have r4 := L2 n
   cases o1 <;> cases o2 <;> simp only [Q5, Dh, hset] <;> grind
 · intro j e y E F E'
   subst e
   have r4 := h12 j rfl
   funext i
   cases o2 <;> simp only [Q5, Dh, hset, CI] <;> grind
 · intro j e y E F F'
   subst e
   funext i
   cases o1 <;> simp only [Q5, Dh, hset, NO] <;> grind
 · intro y E F j z e
   have r3 := L1 j
   have r4 := L2 j
   have := hb j z e
   cases o1 <;> cases o2 <;> simp only [Q5, Dh, hset] <;> grind
section
variable {g : FuncId} {a b : List SV} {p : Int → Bool}
set_option maxHeartbeats 4000000 in
theorem c47g (x : AF) (hs : x.sized) (hd : x.dels.length < 20) (hg : ∀ y, PC g (a ++ [AA y] ++ b) (.bool (p y))) (id : Int) : PC 47 [x.enc, AA id, .fn (.func g) a b] (Hj p id x).enc := by
 intro h n
 refine ED Tryz.func47 rfl fun ho => ?_
 have hHb := ho.lt
 have q1 : n ≠ n + 1 := by omega
 refine Bn 0 [(1, AA id), (2, .fn (.func g) a b), (3, .ptr n 0), (6, .ptr (n + 1) 0)] (hset (hset h n (some (.cells x.flat))) (n + 1) (some TK)) (fun m => n + 2 = m) ?_ (fun m hm => ?_)
 · simp [go_sem, AF.enc, AF.flat, Fz.same]
 subst hm
 refine BM 0 (α := SV × Option Nat × SV × Option Nat) (fun q => [(1, AA id), (2, .fn (.func g) a b), (3, .ptr n 0), (6, .ptr (n + 1) 0)]) (fun q => Q5 x h n q.1 q.2.1 q.2.2.1 q.2.2.2 x.ins x.dels x.layers)
  (fun q m' => Gs 2 (x.dels.map CF.enc) q.1 q.2.1 (n + 2) m' ∧ Gs 4 (x.layers.map BD.enc) q.2.2.1 q.2.2.2 (n + 2) m' ∧ (∀ j, q.2.1 = some j → q.2.2.2 ≠ some j) ∧ n + 2 ≤ m') ?_ ?_
 · simp [go_sem, AF.flat, AD _ _ q1, AC]
   refine SC.use (a118 x hs) ?_
   rintro v H' n' ⟨v1, o1, v2, o2, rfl, a1, a2, h12, hn', hH⟩
   obtain ⟨s1, t1⟩ := a1.st
   obtain ⟨s2, t2⟩ := a2.st
   have L1 := a1.lt
   have L2 := a2.lt
   have hn : H' n = some (.cells [Ah x.props, AA x.ins, AA x.move, Ao x.dels, AV x.layers]) := by
    refine hH n _ ?_
    have r3 := L1 n
    have r4 := L2 n
    cases o1 <;> cases o2 <;> simp only [Dh, hset] <;> grind
   simp [go_sem, hn]
   refine ⟨v1, o1, v2, o2, ⟨a1, a2, h12, hn'⟩, fun j y e => ?_⟩
   have r1 := hH j y
   have r3 := L1 j
   have r4 := L2 j
   have q6 := hHb j y
   clear hH L1 L2 a1 a2 hn
   revert e
   cases o1 <;> cases o2 <;> simp only [Q5, Dh, hset] at r1 ⊢ <;> grind
 rintro ⟨v1, o1, v2, o2⟩ m ⟨a1, a2, h12, hm⟩
 dsimp only at a1 a2 h12 hm ⊢
 have R := rnW (x := x) hHb a1 a2 h12
 generalize Q5 x h n v1 o1 v2 o2 = W at R ⊢
 refine Ae 0 [(1, AA id), (2, .fn (.func g) a b), (3, .ptr n 0), (6, .ptr (n + 1) 0), (7, .ptr n 1)] (W x.ins x.dels x.layers) m ?_ (fun m2 hm2 => ?_)
 · simp [go_sem, Fz.same]
 have hid : ∀ y, PC g (a ++ AA y :: b) (.bool (p y)) := fun y => by simpa using hg y
 refine Bs 0 [(1, AA id), (2, .fn (.func g) a b), (3, .ptr n 0), (6, .ptr (n + 1) 0), (7, .ptr n 1)] (W (GA p id x.ins) x.dels x.layers) m ?_ (fun m3 hm3 => ?_)
 · refine AH ?_
   by_cases i0 : x.ins = 0
   · have hr : GA p id x.ins = x.ins := by simp [GA, i0]
     rw [hr]
     simp [go_sem, R.w0, i0, Fz.same, hm2]
   · have i1 : (x.ins != 0) = true := by simpa using i0
     simp [go_sem, R.w0, i1]
     refine PC.use (hid x.ins) ?_
     cases hp : p x.ins with
     | true =>
      have hr : GA p id x.ins = id := by simp [GA, i0, hp]
      rw [hr]
      simp [go_sem, R.w0, R.sy, Fz.same, hm2]
     | false =>
      have hr : GA p id x.ins = x.ins := by simp [GA, hp]
      rw [hr]
      simp [go_sem, Fz.same, hm2]
 generalize hy : GA p id x.ins = y
 refine Bs 0 [(1, AA id), (2, .fn (.func g) a b), (3, .ptr n 0), (6, .ptr (n + 1) 0), (7, .ptr n 1)] (W y (x.dels.map (CM p id)) x.layers) m ?_ (fun m4 hm4 => ?_)
 · rcases a1 with ⟨_, he, z', f, rfl⟩ | ⟨j, f, rfl, hj1, hj2, rfl⟩
   · have hd0 : x.dels = [] := by simpa using he
     refine AH ?_
     simp [go_sem, R.w0, hd0]
     refine An 0 (α := Unit) (fun _ => [(1, AA id), (2, .fn (.func g) a b), (3, .ptr n 0), (6, .ptr (n + 1) 0), (7, .ptr n 1), (34, AA 0), (35, AA 0)]) (fun _ => W y [] x.layers) (fun _ m' => m ≤ m') (fun _ => 0) () hm3 ?_ AB ?_
     · simp [Ai, Fz.same]
     rintro _ m5 hm5
     simp [go_sem, Fz.same, hm5]
   · refine Ae 0 [(1, AA id), (2, .fn (.func g) a b), (3, .ptr n 0), (6, .ptr (n + 1) 0), (7, .ptr n 1), (34, AA x.dels.length), (35, AA 0)] (W y x.dels x.layers) m ?_ (fun m5 hm5 => ?_)
     · simp [go_sem, R.w0, Fz.same, hm3]
     refine Ab (Bf 0 (α := Nat) (fun i => [(1, AA id), (2, .fn (.func g) a b), (3, .ptr n 0), (6, .ptr (n + 1) 0), (7, .ptr n 1), (34, AA x.dels.length), (35, AA i)]) (fun i => W y (D7 (CM p id) x.dels i) x.layers) (fun i m' => i ≤ x.dels.length ∧ m ≤ m') (fun i => x.dels.length - i) 0 ⟨Nat.zero_le _, hm5⟩ ?_ ?_ ?_)
     · simp [Ai, Fz.same]
     · rw [LW]; exact AB
     rintro i m6 ⟨hi, hm6⟩
     by_cases hlt : i < x.dels.length
     · have w1 := wS i (by omega)
       have hnx := LV (CM p id) x.dels i hlt
       have hEl := Mh (CM p id) x.dels i (Nat.le_of_lt hlt)
       have hget := Mg (CM p id) x.dels i hlt
       obtain ⟨d, hd'⟩ : ∃ d, x.dels[i] = d := ⟨_, rfl⟩
       rw [hd'] at hnx hget
       generalize hE : D7 (CM p id) x.dels i = E at hnx hEl hget
       have hget2 : (E.map CF.enc)[i]? = some d.enc := by rw [List.getElem?_map, hget]; rfl
       obtain ⟨g1, g2⟩ := Kl (CF.E.size E) hget2 (k := 0) (c := AA d.rev) rfl
       have g3 : p d.rev = true → ((E.map CF.enc).flatMap SV.cells).take (i * 2 + 0) ++ AA id :: ((E.map CF.enc).flatMap SV.cells).drop (i * 2 + 0 + 1) = CI (D7 (CM p id) x.dels (i + 1)) := fun hp => by
        rw [N3 (e' := (CM p id d).enc) (CF.E.size E) hget2 (by omega) (by simp [CM, L9, hp, CF.enc, SV.cells]), ← hnx, CI, List.map_set]
       have g4 : p d.rev = false → D7 (CM p id) x.dels (i + 1) = E := fun hp => by
        rw [← hnx, show CM p id d = d by simp [CM, L9, hp]]
        obtain ⟨k1, k2⟩ := List.getElem?_eq_some_iff.1 hget
        rw [← k2]; exact List.set_getElem_self k1
       obtain ⟨E2, hE2⟩ : ∃ E2, D7 (CM p id) x.dels (i + 1) = E2 := ⟨_, rfl⟩
       rw [hE2] at g3 g4
       have hWE : ∀ y F, W y E F j = some (.cells (CI E)) := fun y F => R.wd j rfl y E F
       rw [show (E.map CF.enc).flatMap SV.cells = CI E from rfl] at g1 g2 g3
       simp only [Nat.add_zero] at g1 g2 g3
       refine Ae 0 [(1, AA id), (2, .fn (.func g) a b), (3, .ptr n 0), (6, .ptr (n + 1) 0), (7, .ptr n 1), (34, AA x.dels.length), (35, AA i), (36, .bool true)] (W y E x.layers) m ?_ (fun m7 hm7 => ?_)
       · simp [go_sem, Fz.same, hlt, hm6]
       refine Ae 0 [(1, AA id), (2, .fn (.func g) a b), (3, .ptr n 0), (6, .ptr (n + 1) 0), (7, .ptr n 1), (34, AA x.dels.length), (35, AA i)] (W y E x.layers) m ?_ (fun m8 hm8 => ?_)
       · simp [go_sem, Fz.same, hm7]
       refine AX 0 (α := Unit) (fun _ => [(1, AA id), (2, .fn (.func g) a b), (3, .ptr n 0), (6, .ptr (n + 1) 0), (7, .ptr n 1), (34, AA x.dels.length), (35, AA i)]) (fun _ => W y E2 x.layers) (fun _ m' => m ≤ m') (Ab ?_) (fun _ m9 hm9 => ?_)
       · refine Ae 0 [(1, AA id), (2, .fn (.func g) a b), (3, .ptr n 0), (6, .ptr (n + 1) 0), (7, .ptr n 1), (34, AA x.dels.length), (35, AA i), (8, AA i)] (W y E x.layers) m ?_ (fun m9 hm9 => ?_)
         · simp [go_sem, Fz.same, hm8]
         refine Ae 0 [(1, AA id), (2, .fn (.func g) a b), (3, .ptr n 0), (6, .ptr (n + 1) 0), (7, .ptr n 1), (34, AA x.dels.length), (35, AA i), (8, AA i), (47, .bool (p d.rev))] (W y E x.layers) m ?_ (fun m10 hm10 => ?_)
         · simp [go_sem, R.w0, hWE, hlt, g1, g2]
           refine PC.use (hid d.rev) ?_
           simp [go_sem, Fz.same, hm9]
         cases hp : p d.rev with
         | true =>
          refine Ak (b := true) (by simp [go_sem]) (AH ?_)
          have g3 := g3 hp
          simp [go_sem, R.w0, hWE, hlt, g1, g3, R.sd j rfl, Fz.same, hm10]
         | false =>
          refine Ak (b := false) (by simp [go_sem]) (AH ?_)
          rw [g4 hp]
          simp [go_sem, Fz.same, hm10]
       · refine AH ?_
         simp [go_sem, w1, Fz.same, -Int.natCast_add]
         exact ⟨i + 1, by omega, ⟨by omega, hm9⟩, Fz.same, by rw [hE2]; exact AB⟩
     · have : i = x.dels.length := by omega
       subst this
       rw [Mf]
       refine AH ?_
       simp [go_sem, Fz.same]
       exact hm6
 have hdl : (x.dels.map (CM p id)).length = x.dels.length := List.length_map _
 refine Bs 0 [(1, AA id), (2, .fn (.func g) a b), (3, .ptr n 0), (6, .ptr (n + 1) 0), (7, .ptr n 1)] (W y (DB (x.dels.map (CM p id)) x.dels.length) x.layers) m ?_ (fun m5 hm5 => ?_)
 · rcases a1 with ⟨_, he, z', f, rfl⟩ | ⟨j, f, rfl, hj1, hj2, rfl⟩
   · have hd0 : x.dels = [] := by simpa using he
     refine AH ?_
     simp [go_sem, R.w0, hd0]
     refine PC.use (by exact c119.wk (us := [.imm z' [] f, .fn (.func 120) [] []]) 1 ⟨Ba (by simp), Fz.same, trivial⟩) ?_
     simp [go_sem, Fz.same, hm4, DB]
   · refine AH ?_
     simp [go_sem, R.w0]
     by_cases hd0 : x.dels = []
     · simp only [hd0, List.length_nil]
       refine PC.use (c119v j f) ?_
       simp [go_sem, Fz.same, hm4, DB]
     have hl1 : 1 ≤ (x.dels.map (CM p id)).length := by rw [hdl]; exact List.length_pos_iff.2 hd0
     have c := d119 (x.dels.map (CM p id)) hl1 (by omega) (full := f) (n := m4) (R.wd j rfl y (x.dels.map (CM p id)) x.layers)
     rw [hdl, R.sd j rfl] at c
     refine SC.use c ?_
     rintro v H' n' ⟨rfl, rfl, rfl⟩
     simp [go_sem, Fz.same, hm4]
 have hll := hs.layers
 have hDl : (DB (x.dels.map (CM p id)) x.dels.length).length = x.dels.length := by rw [Gn, hdl]
 obtain ⟨D, hD⟩ : ∃ D, DB (x.dels.map (CM p id)) x.dels.length = D := ⟨_, rfl⟩
 rw [hD] at hDl ⊢
 refine Bs 0 [(1, AA id), (2, .fn (.func g) a b), (3, .ptr n 0), (6, .ptr (n + 1) 0), (7, .ptr n 1)] (W y D (x.layers.map (B7 p id))) m ?_ (fun m4 hm4 => ?_)
 · rcases a2 with ⟨_, he, z', f, rfl⟩ | ⟨j, f, rfl, hj1, hj2, rfl⟩
   · have hd0 : x.layers = [] := by simpa using he
     refine AH ?_
     simp [go_sem, R.w0, hd0]
     refine An 0 (α := Unit) (fun _ => [(1, AA id), (2, .fn (.func g) a b), (3, .ptr n 0), (6, .ptr (n + 1) 0), (7, .ptr n 1), (66, AA 0), (67, AA 0)]) (fun _ => W y D []) (fun _ m' => m ≤ m') (fun _ => 0) () hm5 ?_ AB ?_
     · simp [Ai, Fz.same]
     rintro _ m5 hm15
     simp [go_sem, Fz.same, hm15]
   · refine Ae 0 [(1, AA id), (2, .fn (.func g) a b), (3, .ptr n 0), (6, .ptr (n + 1) 0), (7, .ptr n 1), (66, AA x.layers.length), (67, AA 0)] (W y D x.layers) m ?_ (fun m5 hm15 => ?_)
     · simp [go_sem, R.w0, Fz.same, hm5]
     refine Ab (Bf 0 (α := Nat) (fun i => [(1, AA id), (2, .fn (.func g) a b), (3, .ptr n 0), (6, .ptr (n + 1) 0), (7, .ptr n 1), (66, AA x.layers.length), (67, AA i)]) (fun i => W y D (D7 (B7 p id) x.layers i)) (fun i m' => i ≤ x.layers.length ∧ m ≤ m') (fun i => x.layers.length - i) 0 ⟨Nat.zero_le _, hm15⟩ ?_ ?_ ?_)
     · simp [Ai, Fz.same]
     · rw [LW]; exact AB
     rintro i m6 ⟨hi, hm6⟩
     by_cases hlt : i < x.layers.length
     · have w1 := wS i (by omega)
       have hnx := LV (B7 p id) x.layers i hlt
       have hEl := Mh (B7 p id) x.layers i (Nat.le_of_lt hlt)
       have hget := Mg (B7 p id) x.layers i hlt
       obtain ⟨d, hd'⟩ : ∃ d, x.layers[i] = d := ⟨_, rfl⟩
       rw [hd'] at hnx hget
       generalize hE : D7 (B7 p id) x.layers i = E at hnx hEl hget
       have hget2 : (E.map BD.enc)[i]? = some d.enc := by rw [List.getElem?_map, hget]; rfl
       obtain ⟨g1, g2⟩ := Kl (BD.E.size E) hget2 (k := 0) (c := AA d.rev) rfl
       have g3 : p d.rev = true → ((E.map BD.enc).flatMap SV.cells).take (i * 4 + 0) ++ AA id :: ((E.map BD.enc).flatMap SV.cells).drop (i * 4 + 0 + 1) = NO (D7 (B7 p id) x.layers (i + 1)) := fun hp => by
        rw [N3 (e' := (B7 p id d).enc) (BD.E.size E) hget2 (by omega) (by simp [B7, L9, hp, BD.enc, SV.cells]), ← hnx, NO, List.map_set]
       have g4 : p d.rev = false → D7 (B7 p id) x.layers (i + 1) = E := fun hp => by
        rw [← hnx, show B7 p id d = d by simp [B7, L9, hp]]
        obtain ⟨k1, k2⟩ := List.getElem?_eq_some_iff.1 hget
        rw [← k2]; exact List.set_getElem_self k1
       obtain ⟨E2, hE2⟩ : ∃ E2, D7 (B7 p id) x.layers (i + 1) = E2 := ⟨_, rfl⟩
       rw [hE2] at g3 g4
       rw [show (E.map BD.enc).flatMap SV.cells = NO E from rfl] at g1 g2 g3
       have hWE : ∀ y G, W y G E j = some (.cells (NO E)) := fun y G => R.wl j rfl y G E
       simp only [Nat.add_zero] at g1 g2 g3
       refine Ae 0 [(1, AA id), (2, .fn (.func g) a b), (3, .ptr n 0), (6, .ptr (n + 1) 0), (7, .ptr n 1), (66, AA x.layers.length), (67, AA i), (68, .bool true)] (W y D E) m ?_ (fun m7 hm7 => ?_)
       · simp [go_sem, Fz.same, hlt, hm6]
       refine Ae 0 [(1, AA id), (2, .fn (.func g) a b), (3, .ptr n 0), (6, .ptr (n + 1) 0), (7, .ptr n 1), (66, AA x.layers.length), (67, AA i)] (W y D E) m ?_ (fun m8 hm8 => ?_)
       · simp [go_sem, Fz.same, hm7]
       refine AX 0 (α := Unit) (fun _ => [(1, AA id), (2, .fn (.func g) a b), (3, .ptr n 0), (6, .ptr (n + 1) 0), (7, .ptr n 1), (66, AA x.layers.length), (67, AA i)]) (fun _ => W y D E2) (fun _ m' => m ≤ m') (Ab ?_) (fun _ m9 hm9 => ?_)
       · refine Ae 0 [(1, AA id), (2, .fn (.func g) a b), (3, .ptr n 0), (6, .ptr (n + 1) 0), (7, .ptr n 1), (66, AA x.layers.length), (67, AA i), (9, AA i)] (W y D E) m ?_ (fun m9 hm9 => ?_)
         · simp [go_sem, Fz.same, hm8]
         refine Ae 0 [(1, AA id), (2, .fn (.func g) a b), (3, .ptr n 0), (6, .ptr (n + 1) 0), (7, .ptr n 1), (66, AA x.layers.length), (67, AA i), (9, AA i), (79, .bool (p d.rev))] (W y D E) m ?_ (fun m10 hm10 => ?_)
         · simp [go_sem, R.w0, hWE, hlt, g1, g2]
           refine PC.use (hid d.rev) ?_
           simp [go_sem, Fz.same, hm9]
         cases hp : p d.rev with
         | true =>
          refine Ak (b := true) (by simp [go_sem]) (AH ?_)
          have g3 := g3 hp
          simp [go_sem, R.w0, hWE, hlt, g1, g3, R.sl j rfl, Fz.same, hm10]
         | false =>
          refine Ak (b := false) (by simp [go_sem]) (AH ?_)
          rw [g4 hp]
          simp [go_sem, Fz.same, hm10]
       · refine AH ?_
         simp [go_sem, w1, Fz.same, -Int.natCast_add]
         exact ⟨i + 1, by omega, ⟨by omega, hm9⟩, Fz.same, by rw [hE2]; exact AB⟩
     · have : i = x.layers.length := by omega
       subst this
       rw [Mf]
       refine AH ?_
       simp [go_sem, Fz.same]
       exact hm6
 have hval : (Hj p id x).enc = .agg [Ah x.props, AA y, AA x.move, Ao D, AV (x.layers.map (B7 p id))] := by
  rw [← hy, ← hD]; rfl
 have e1 : ∀ h', (∀ j, o1 = some j → h' j = some (.cells (CI D))) → Fz h' h 1 v1 (Ao D) := fun h' hh => by
  rcases a1 with ⟨_, he, z', f, rfl⟩ | ⟨j, f, rfl, hj1, hj2, rfl⟩
  · have hd0 : x.dels = [] := by simpa using he
    have : D = [] := List.eq_nil_of_length_eq_zero (by rw [hDl, hd0]; rfl)
    rw [this]; exact Ba (by simp)
  · have := Dq (h' := h') (h := h) (k := 0) (z := 2) (es := D.map CF.enc) (full := f) (full' := false) (o := j) (ho.none (by omega)) (by simp) (hh j rfl) (CF.E.size D)
    rw [List.length_map, hDl] at this; rw [List.length_map]; exact this
 have e2 : ∀ h', (∀ j, o2 = some j → h' j = some (.cells (NO (x.layers.map (B7 p id))))) → Fz h' h 1 v2 (AV (x.layers.map (B7 p id))) := fun h' hh => by
  rcases a2 with ⟨_, he, z', f, rfl⟩ | ⟨j, f, rfl, hj1, hj2, rfl⟩
  · have hd0 : x.layers = [] := by simpa using he
    rw [hd0]; exact Ba (by simp)
  · have := Dq (h' := h') (h := h) (k := 0) (z := 4) (es := (x.layers.map (B7 p id)).map BD.enc) (full := f) (full' := false) (o := j) (ho.none (by omega)) (by simp) (hh j rfl) (BD.E.size _)
    rw [List.length_map, List.length_map] at this; rw [List.length_map]; exact this
 obtain ⟨s1, t1⟩ := a1.st
 obtain ⟨s2, t2⟩ := a2.st
 have L1 := a1.lt
 have L2 := a2.lt
 simp only [SV.storable, SV.cells] at s1 t1 s2 t2
 rw [hval]
 refine AH ?_
 have W0 := R.w0 y D (x.layers.map (B7 p id))
 have W1 := R.w1 y D (x.layers.map (B7 p id))
 have WD := fun j e => R.wd j e y D (x.layers.map (B7 p id))
 have WL := fun j e => R.wl j e y D (x.layers.map (B7 p id))
 have WO := R.old y D (x.layers.map (B7 p id))
 simp [go_sem, W0, W1, AC]
 refine Dp (v := .agg [Ah x.props, AA y, AA x.move, Ao D, AV (x.layers.map (B7 p id))]) 2 ho (AL (fun j z e => by have := hHb j z e; omega) WO) (.inr ⟨Fz.same, Fz.same, Fz.same, e1 _ (fun j e => ?_), e2 _ (fun j e => ?_), trivial⟩) (by simp [closed, closedL, FH.E.closedL, CF.E.closedL, BD.E.closedL, -List.map_map])
 · have := L1 j e
   rw [AD _ _ (by omega)]; exact WD j e
 · have := L2 j e
   rw [AD _ _ (by omega)]; exact WL j e
end
def KL (a id : Int) (s : Unit) (p : Br) : AF × Bool × Unit := (if p.mid then Hj (fun y => y == a) id p.head else p.head, true, s)
theorem v46g (n0 : Nat) (r : BF) (a : Int) : L0 st0 n0 46 [] [.iptr [AA r.id, .str r.author, AA r.time], .iptr [AA a]] (KL a r.id) (fun x => x.sized ∧ x.dels.length < 20) where
 lt _ _ _ := rfl
 dom _ _ _ _ := rfl
 cl _ _ _ e := by cases e
 call s p H n hp hn hs := by
  rw [up0]
  refine ED Tryz.func46 rfl fun ho => ?_
  have hHb := ho.lt
  have q1 : n + 1 ≠ n := by omega
  obtain ⟨X, hX⟩ : ∃ X : SV, X = .iptr (p.head.flat ++ [.bool p.mid, AA p.units]) := ⟨_, rfl⟩
  refine Bn 1 [(1, .iptr [AA r.id, .str r.author, AA r.time]), (2, .iptr [AA a]), (3, X), (4, .ptr (n + 1) 0)] (hset H (n + 1) (some (.cells [.imm 0 [] true, AA 0, AA 0, .imm 0 [] true, .imm 0 [] true]))) (fun m => n + 2 ≤ m) ?_ (fun m hm => ?_)
  · rw [hX]
    simp [go_sem, Br.enc, AF.flat, Fz.same]
    refine ⟨Ac (by rw [AD _ _ q1.symm]; exact ho.none (Nat.le_refl n)) (by simp [hset]), fun j y => ?_⟩
    have := hHb j y; simp only [hset]; grind
  have hcl : ∀ x : AF, closed n (.tup [x.enc, .bool true]) = true := fun x => by simp [closed, closedL, AF.E.cl]
  have fin : ∀ (x : AF) (y : BV) (m' : Nat), KL a r.id s p = (x, true, s) → CG n (hset H (n + 1) (some y)) m' (.tup [x.enc, .bool true]) (fun v h' n' => v = .tup [(KL a r.id s p).1.enc, .bool (KL a r.id s p).2.1] ∧ h' = H ∧ n' = n) := fun x y m' e => by rw [e]; exact Cb ho (hcl x) (AL (fun j z e => by have := hHb j z e; omega) AB)
  rw [hX]
  refine AH ?_
  cases hmid : p.mid with
  | false =>
   simp [go_sem, AF.flat, AC, Aq]
   exact fin p.head _ _ (by simp [KL, hmid])
  | true =>
   simp [go_sem, AF.flat]
   refine PC.use (by simpa [AF.enc, AF.flat] using c47g (g := 48) (a := []) (b := [.iptr [AA a]]) (p := fun y => y == a) p.head hp.1 hp.2 (fun y => c48 a y) r.id) ?_
   simp [go_sem, AF.enc, AF.flat, AC, Aq]
   exact fin (Hj (fun y => y == a) r.id p.head) _ _ (by simp [KL, hmid])
abbrev wr (x : Int) : Int := IntKind.i64.wrap x
theorem QG (x : Int) : wr (wr x) = wr x := by simp only [wr, IntKind.wrap_i64]; omega
theorem Nn (x y : Int) : wr (wr x + y) = wr (x + y) := by simp only [wr, IntKind.wrap_i64]; omega
def Rw (s t : Int × Int) (i o : Nat) : Prop := wr t.1 = wr (s.1 + i) ∧ wr t.2 = wr (s.2 + o) ∧ (wr s.1 = s.1 → wr t.1 = t.1) ∧ (wr s.2 = s.2 → wr t.2 = t.2)
theorem Rw.zero (s : Int × Int) : Rw s s 0 0 := ⟨by simp, by simp, id, id⟩
theorem Rw.trans {s t r : Int × Int} {i o i' o' : Nat} (h : Rw s t i o) (g : Rw t r i' o') : Rw s r (i + i') (o + o') := by
 obtain ⟨h1, h2, h3, h4⟩ := h
 obtain ⟨g1, g2, g3, g4⟩ := g
 refine ⟨?_, ?_, fun e => g3 (h3 e), fun e => g4 (h4 e)⟩
 · rw [g1, ← Nn, h1, Nn]; congr 1; omega
 · rw [g2, ← Nn, h2, Nn]; congr 1; omega
theorem Ko {α β : Type} (g : β × (Int × Int) → α → β × (Int × Int)) (fi fo : α → Nat) : ∀ (l : List α) (b : β) (s : Int × Int), (∀ x ∈ l, ∀ b s, Rw s (g (b, s) x).2 (fi x) (fo x)) → Rw s (l.foldl g (b, s)).2 (l.map fi).sum (l.map fo).sum
 | [], _, s, _ => Rw.zero s
 | x :: l, b, s, h => by
  rw [List.foldl_cons, List.map_cons, List.map_cons, List.sum_cons, List.sum_cons]
  have h1 := h x (by simp) b s
  have h2 : g (b, s) x = ((g (b, s) x).1, (g (b, s) x).2) := rfl
  rw [h2]
  exact h1.trans (Ko g fi fo l _ _ fun y hy => h y (by simp [hy]))
theorem Pd (x : AE) : (Ap [x]).1 = x.units ∧ 0 ≤ x.units := by
 have h0 : 0 ≤ x.units := by unfold AE.units; split <;> (try split) <;> omega
 refine ⟨?_, h0⟩
 unfold Ap JU
 simp only [List.any_cons, List.any_nil, Bool.or_false, Au, decide_eq_true_eq]
 split
 · rename_i h
   unfold AE.uerr at h
   unfold AE.units
   split at h
   · rename_i k
     rw [if_pos k]
     split at h
     · exact absurd rfl h
     · rename_i c; rw [if_neg c]
   · exact absurd rfl h
 · simp
section
variable (rev : Int) (sc : BG)
theorem PE (s : Int × Int) (h : AF) (mid : Bool) (k : Int) (hk : 0 ≤ k) : Rw s (Dj rev s ⟨h, mid, k⟩) (Fh true mid (DK (h.uses rev) * k.toNat)) (Fh false mid (DK (h.uses rev) * k.toNat)) := by
 unfold Dj
 have e : ((k.toNat : Nat) : Int) = k := by omega
 cases hu : h.uses rev with
 | false => simp only [Bool.false_eq_true, if_false, DK, Nat.zero_mul]; unfold Fh; cases mid <;> exact Rw.zero s
 | true =>
  cases mid with
  | true => exact ⟨by simp [Fh, DK, QG, e], by simp [Fh], fun _ => QG _, id⟩
  | false => exact ⟨by simp [Fh], by simp [Fh, DK, QG, e], id, fun _ => QG _⟩
theorem Rq (it : Int → List AE → Bool → Int × Int → List AE × (Int × Int)) (ti to : Int → List AE → Bool → Nat) (mid : Bool) (l : List AE) (s : Int × Int) (H : ∀ id f s, Rw s (it id f mid s).2 (ti id f mid) (to id f mid)) :
 Rw s (A8 (Bz (Dj rev)) it mid l s).2 (E8 (fun h => h.uses rev) true ti mid l) (E8 (fun h => h.uses rev) false to mid l) := by
 have one : ∀ s (h : AF), Rw s (Dj rev s ⟨h, mid, 1⟩) (Fh true mid (DK (h.uses rev))) (Fh false mid (DK (h.uses rev))) := fun s h => by
  have := PE rev s h mid 1 (by omega)
  simpa using this
 unfold A8 E8
 refine Ko _ _ _ l _ _ fun x hx b s => ?_
 obtain ⟨e1, e2⟩ := Pd x
 have c := PE rev s x.head mid x.units e2
 simp only [CE, Bz, if_true, Ss, e1]
 refine c.trans ?_
 unfold Ci LP
 by_cases k6 : x.kind = 6
 · simp only [k6, if_true]; exact H _ _ _
 · by_cases k7 : x.kind = 7
   · simp only [k7, if_true, show ¬ (7 : Int) = 6 by decide, if_false]
     unfold Gk
     refine Ko _ _ _ _ _ _ fun r hr b s => ?_
     simp only [Ei, Bz, if_true, QV]
     refine (one s r.head).trans ?_
     unfold EG
     refine Ko _ _ _ _ _ _ fun c hc b s => ?_
     simp only [DX, Bz, if_true, QT]
     exact (one s c.head).trans (H _ _ _)
   · simp only [k6, k7, if_false]; exact Rw.zero _
theorem OO : ∀ (N : Nat) (id : Int) (l : List AE) (mid : Bool) (s : Int × Int), Rw s (AN (Bz (Dj rev)) sc N id l mid s).2 (cw (fun h => h.uses rev) true sc N id l mid) (cw (fun h => h.uses rev) false sc N id l mid)
 | 0, _, _, _, s => Rw.zero s
 | N + 1, id, l, mid, s => by
  have P := fun mid l s => Rq rev (AN (Bz (Dj rev)) sc N) _ _ mid l s fun id f s => OO N id f mid s
  rw [AN, cw, cw]
  split
  · exact ((P false _ _).trans (P true _ _)).trans (P false _ _)
  · exact P mid l s
end
section
variable (g : Bool → AF → AF) (sc : BG)
def gF (s : Unit) (p : Br) : AF × Bool × Unit := (g p.mid p.head, true, s)
def PW (it : Int → List AE → Bool → Unit → List AE × Unit) (mid : Bool) (c : AK) : AK := .mk c.id (g mid c.head) (it c.id c.flow mid ()).1
def Oz (it : Int → List AE → Bool → Unit → List AE × Unit) (mid : Bool) (r : AS) : AS := .mk (g mid r.head) (r.cells.map (PW g it mid))
def HP (it : Int → List AE → Bool → Unit → List AE × Unit) (mid : Bool) (x : AE) : AE := x.put (g mid x.head) (if x.kind = 6 then (it x.id x.flow mid ()).1 else x.flow) (if x.kind = 7 then x.rows.map (Oz g it mid) else x.rows)
theorem I7 {α β : Type} (f : α → β) (st : List β × Unit → α → List β × Unit) : ∀ (l : List α) (q : List β × Unit), (∀ x ∈ l, ∀ q, (st q x).1 = q.1 ++ [f x]) → (l.foldl st q).1 = q.1 ++ l.map f
 | [], q, _ => by simp
 | x :: l, q, h => by rw [List.foldl_cons, I7 f st l _ fun y hy => h y (by simp [hy]), h x (by simp)]; simp
theorem EU (it : Int → List AE → Bool → Unit → List AE × Unit) (mid : Bool) (l : List AE) : (A8 (gF g) it mid l ()).1 = l.map (HP g it mid) := by
 unfold A8
 rw [I7 (HP g it mid) _ l _ fun x hx q => ?_]; simp
 simp only [CE, gF, if_true, HP, Ci]
 by_cases k6 : x.kind = 6
 · simp [k6]
 · by_cases k7 : x.kind = 7
   · simp only [k7, show ¬ (7 : Int) = 6 by decide, if_true, if_false]
     congr 3
     unfold Gk
     rw [I7 (Oz g it mid) _ _ _ fun r hr q => ?_]; simp
     simp only [Ei, gF, if_true, Oz]
     congr 3
     unfold EG
     rw [I7 (PW g it mid) _ _ _ fun c hc q => ?_]; simp
     simp only [DX, gF, if_true, PW]
   · simp [k6, k7]
end
def K5 (N : Nat) (x : AE) : Prop := (x.kind = 7 → x.rows ≠ []) ∧ (x.kind = 6 → DG N x.flow) ∧ (x.kind = 7 → ∀ r ∈ x.rows, r.cells ≠ [] ∧ ∀ c ∈ r.cells, DG N c.flow)
theorem H5 {N : Nat} {x : AE} : MO N x ↔ BL x.text = true ∧ K5 N x := by unfold MO K5 val; exact ⟨fun h => ⟨h.1.1, h.1.2, h.2⟩, fun h => ⟨⟨h.1, h.2.1⟩, h.2.2⟩⟩
theorem K6 {N : Nat} (x : AE) (t : ByteArray) (H : K5 N x) : K5 N (.mk x.kind x.code x.id t x.head x.flow x.rows) := by cases x; exact H
theorem N9 (l : List AE) (cu : Int) (h0 : 0 ≤ cu) (hv : ∀ x ∈ l, BL x.text = true) : ∀ k, k ≤ l.length → (∀ y ∈ (By l cu k).1, BL y.text = true) ∧ ∀ y ∈ (By l cu k).2, BL y.text = true
 | 0, _ => by simp [By]
 | k + 1, hk => by
  obtain ⟨i1, i2⟩ := N9 l cu h0 hv k (by omega)
  have hget := ET 0 l k (by omega)
  have hst : By l cu (k + 1) = Bk cu (By l cu k) (0 + Au (l.take k), l[k]) := by
   unfold By
   obtain ⟨h1, h2⟩ := List.getElem?_eq_some_iff.1 hget
   rw [List.take_succ_eq_append_getElem h1, List.foldl_append, h2]; rfl
  have hvx := hv l[k] (List.getElem_mem _)
  rw [hst]
  generalize Au (l.take k) = p
  generalize l[k] = x at *
  unfold Bk
  dsimp only
  by_cases c1 : 0 + p + x.units ≤ cu
  · rw [if_pos c1]; exact ⟨Dx i1 hvx, i2⟩
  · rw [if_neg c1]
    by_cases c2 : cu ≤ 0 + p
    · rw [if_pos c2]; exact ⟨i1, Dx i2 hvx⟩
    · rw [if_neg c2]
      have k1 : x.kind = 1 := by
       by_cases k : x.kind = 1
       · exact k
       · have : x.units = 1 := by rw [AE.units, if_neg k]
         omega
      have hu : x.units = Ax x.text x.text.size := by rw [AE.units, if_pos k1, hvx]; rfl
      obtain ⟨o, e1, e2, v1, v2, n1, n2⟩ := I0 hvx (u := cu - (0 + p)) (by omega) (by omega)
      rw [e1]
      exact ⟨Dx i1 v1, Dx i2 v2⟩
theorem GL {N : Nat} {l : List AE} (cu : Int) (h0 : 0 ≤ cu) (H : DG (N + 1) l) : DG (N + 1) (Am l cu).1 ∧ DG (N + 1) (Am l cu).2 := by
 have h1 := N9 l cu h0 (fun x hx => (H x hx).1.1) l.length (Nat.le_refl _)
 have h2 := Ga (p := K5 N) K6 l cu (fun x hx => (H5.1 (H x hx)).2) l.length (Nat.le_refl _)
 exact ⟨fun x hx => H5.2 ⟨h1.1 x hx, h2.1 x hx⟩, fun x hx => H5.2 ⟨h1.2 x hx, h2.2 x hx⟩⟩
theorem Ot : ∀ (l out : List AE), (∀ y ∈ out, val y) → (∀ y ∈ l, val y) → ∀ y ∈ l.foldl Ar out, val y
 | [], _, ho, _ => ho
 | x :: l, out, ho, hl => by
  rw [List.foldl_cons]
  exact Ot l _ (No (fun _ => true) ho (hl x (by simp))).2 fun y hy => hl y (by simp [hy])
theorem JJ {x : AE} (h : ∀ r ∈ x.rows, r.cells ≠ []) : (AE.nrm x).rows = x.rows.map AS.nrm := by
 rw [(AE.nrm_fields x).2.2.2.2.2.2, HY h]
theorem AS.nrm_cells (r : AS) : (AS.nrm r).cells = r.cells.map AK.nrm ∧ (AS.nrm r).head = r.head := by cases r; rw [AS.nrm, AK.nrmL_eq]; exact ⟨rfl, rfl⟩
theorem AK.nrm_all (c : AK) : (AK.nrm c).flow = AU c.flow ∧ (AK.nrm c).id = c.id ∧ (AK.nrm c).head = c.head := by cases c; rw [AK.nrm]; exact ⟨rfl, rfl, rfl⟩
theorem EO : ∀ {N : Nat} {l : List AE}, DG N l → DG N (AU l)
 | 0, _, h => h.elim
 | N + 1, l, H => by
  have hv : ∀ y ∈ AE.nrmL l, val y ∧ K5 N y := fun y hy => by
   rw [AE.nrmL_eq] at hy
   obtain ⟨x, hx, rfl⟩ := List.mem_map.1 hy
   obtain ⟨⟨h1, h2⟩, h6, h7⟩ := H x hx
   obtain ⟨e0, _, _, et, _, e2, e3⟩ := AE.nrm_fields x
   have hr : x.kind = 7 → (AE.nrm x).rows = x.rows.map AS.nrm := fun k => JJ fun r hr => (h7 k r hr).1
   refine ⟨⟨by rw [et]; exact h1, fun k => ?_⟩, fun k => ?_, fun k => ?_, fun k r hr' => ?_⟩
   · rw [e0] at k; rw [hr k]; simpa using h2 k
   · rw [e0] at k; rw [hr k]; simpa using h2 k
   · rw [e0] at k; rw [e2]; exact EO (h6 k)
   · rw [e0] at k; rw [hr k] at hr'
     obtain ⟨r0, hr0, rfl⟩ := List.mem_map.1 hr'
     rw [(AS.nrm_cells r0).1]
     refine ⟨by simpa using (h7 k r0 hr0).1, fun c hc => ?_⟩
     obtain ⟨c0, hc0, rfl⟩ := List.mem_map.1 hc
     rw [(AK.nrm_all c0).1]
     exact EO ((h7 k r0 hr0).2 c0 hc0)
  unfold AU Cz
  have h1 := Ot (AE.nrmL l) [] (by simp) fun y hy => (hv y hy).1
  have h2 := Ft (p := K5 N) K6 (AE.nrmL l) [] (by simp) fun y hy => (hv y hy).2
  exact fun x hx => H5.2 ⟨(h1 x hx).1, h2 x hx⟩
theorem CS {N : Nat} {l : List AE} (a b : Int) (ha : 0 ≤ a) (hb : 0 ≤ b) (H : DG (N + 1) l) : DG (N + 1) (AR l a b).1 := by
 unfold AR
 split
 · exact EO (GL a ha (GL b hb H).1).2
 · intro x hx; cases hx
theorem Co {N : Nat} {l : List AE} (H : DG (N + 1) l) : Ap l = (Au l, 0) := by
 unfold Ap
 have : JU l = false := by
  unfold JU
  rw [List.any_eq_false]
  intro x hx
  have := (H x hx).1.1
  simp [AE.uerr, this]
 rw [this]; rfl
theorem El (u : AF → Bool) {N : Nat} {l : List AE} (H : DG (N + 1) l) (a b : Int) (h0 : 0 ≤ a) (h1 : a ≤ b) (h2 : b ≤ Au l) : Dr u (AR l a b).1 = ((Dr u l).take b.toNat).drop a.toNat := by
 have hck : DR l a b = 0 := by
  unfold DR
  rw [Co H]
  have : ¬ (a < 0 ∨ b < a ∨ Au l < b) := by omega
  simp [this]
 unfold AR
 rw [if_pos hck]
 have d1 := (GL b (by omega) H).1
 have w1 := (MR u l b (by omega) fun x hx => (H x hx).1.1).1
 have w2 := (MR u (Am l b).1 a h0 fun x hx => (d1 x hx).1.1).2
 rw [Gq u (GL a h0 d1).2, w2, w1]
theorem Hf {m2 : List Int} {hp : AF → Prop} {K : Nat} : ∀ {N : Nat} {l : List AE}, Oy m2 N l → EZ hp K N l → DG N l
 | 0, _, _, h => h.elim
 | N + 1, l, h, hl => fun x hx => by
  obtain ⟨⟨f6, f7, fv⟩, _, hf, hr7, hr⟩ := h x hx
  obtain ⟨_, l2, _, l4⟩ := hl.2.2 x hx
  exact ⟨⟨fv, hr7⟩, fun k => Hf hf l2, fun k r hr' => ⟨(hr r hr').1.2, fun c hc => Hf ((hr r hr').2 c hc).2 ((l4 r hr').2.2 c hc).2⟩⟩
theorem Lx {u v : AF → Bool} {hp : AF → Prop} (huv : ∀ h, hp h → u h = v h) {K : Nat} : ∀ {N : Nat} {l : List AE}, EZ hp K N l → Dr u l = Dr v l
 | 0, _, h => h.elim
 | N + 1, l, H => by
  have one : ∀ x ∈ l, AE.wt u x = AE.wt v x := fun x hx => by
   obtain ⟨l1, l2, _, l4⟩ := H.2.2 x hx
   rw [GU, GU, huv _ l1, FB, FB, Lx huv l2, G8, G8]
   congr 5
   refine List.map_congr_left fun r hr => ?_
   obtain ⟨r1, _, r3⟩ := l4 r hr
   cases r with
   | mk rh rc =>
    have e := huv _ r1
    rw [show (AS.mk rh rc).head = rh from rfl] at e
    rw [AS.wt, AS.wt, e, GK, GK]
    congr 2
    refine List.map_congr_left fun c hc => ?_
    obtain ⟨c1, c2⟩ := r3 c hc
    cases c with
    | mk ci ch cf =>
     have e := huv _ c1
     have e2 := Lx huv c2
     rw [show (AK.mk ci ch cf).head = ch from rfl] at e
     rw [show (AK.mk ci ch cf).flow = cf from rfl] at e2
     rw [AK.wt, AK.wt, e, FB, FB, e2]
  clear H
  induction l with
  | nil => rfl
  | cons x l ih => rw [Eu, Eu, one x (by simp), ih fun y hy => one y (by simp [hy])]
end Go.Proofs.YtgakninlhfkkmaaGreat.Sh
