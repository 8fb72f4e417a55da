/- A part of the proof (part 8 of 13). -/
import Derived.Test.YthinbkgpjmjfeaaGreatDoorN7
import Derived.Test.YthinbkgpjmjfeaaGreatDoorRows
import Derived.WalkKit
import Derived.ProofKit
import Derived.OpenShut
import Derived.JoinedCond
import Derived.ReadAgain
import Derived.ChangeReads
namespace Go.Proofs.YthinbkgpjmjfeaaGreatDoor.Sh
open Proofs
set_option maxRecDepth 10000
def cx0 (w : World) : Cx := ⟨fun _ => none, fun _ => False, w, fun _ => none⟩
def BB : Nat := 1048576
section
variable {H : Type} (enc : TypeId × Value → H) (P : Program) (w : World) (base : Nat) (spare : Nat → Bool) (held : Bool)
variable {α β : Type}
def Rd (k : Nat) (e : TypeId) (F : α → List SV) (z : Nat) (ok : α → Prop) (μ : α → Nat) : Prop :=
  ∀ cs x, DataW.trod enc P w base spare held k e cs = some x → Rows.uptoBulk x.1 ≤ BB → ∃ a, VL (cx0 w) (F a) cs ∧ cs.length = z ∧ (∀ v ∈ cs, v.oneCell' = true) ∧ ok a ∧ μ a + 1 ≤ Rows.uptoBulk x.1
def RdS (n : Nat) (L : Nat) (fs : List Field) (o : Nat) (F : α → List SV) (ok : α → Prop) (μ : α → Nat) : Prop :=
  ∀ (cs : List Value) (xs : List (DataW H × List MemPlace)), cs.length = L → xs.length = fs.length → (∀ (i : Nat) (f : Field), fs[i]? = some f → DataW.trod enc P w base spare held n f.type ((cs.drop f.offset).take (P.cellsOf f.type)) = xs[i]?) →
    Rows.uptoBulkAll (xs.map (·.1)) ≤ BB → ∃ b, VL (cx0 w) (F b) (cs.drop o) ∧ (∀ v ∈ cs.drop o, v.oneCell' = true) ∧ ok b ∧ μ b ≤ Rows.uptoBulkAll (xs.map (·.1))
variable {enc P w base spare held}
theorem VL_app {c : Cx} {a b : List SV} {x y : List Value} (h : VL c a x) (g : VL c b y) : VL c (a ++ b) (x ++ y) := VL_iff.2 (All2.append (VL_iff.1 h) (VL_iff.1 g))
theorem RdS.nil {n L : Nat} : RdS enc P w base spare held n L [] L (fun _ : Unit => []) (fun _ => True) (fun _ => 0) := fun cs xs h1 h2 _ _ => by
  have : cs.drop L = [] := List.drop_eq_nil_of_le (by omega)
  exact ⟨(), by rw [this, VL], by rw [this]; simp, trivial, Nat.zero_le _⟩
theorem RdS.cons {n L : Nat} {f : Field} {fs : List Field} {o z : Nat} {F1 : α → List SV} {F2 : β → List SV} {ok1 : α → Prop} {ok2 : β → Prop} {μ1 : α → Nat} {μ2 : β → Nat} (h1 : Rd enc P w base spare held n f.type F1 z ok1 μ1) (hz : P.cellsOf f.type = z) (ho : f.offset = o)
    (h2 : RdS enc P w base spare held n L fs (o + z) F2 ok2 μ2) : RdS enc P w base spare held n L (f :: fs) o (fun p : α × β => F1 p.1 ++ F2 p.2) (fun p => ok1 p.1 ∧ ok2 p.2) (fun p => μ1 p.1 + μ2 p.2) := fun cs xs g1 g2 g3 g4 => by
  cases xs with
  | nil => simp at g2
  | cons x xs =>
    simp only [List.map_cons, Rows.uptoBulkAll] at g4
    have e0 := g3 0 f rfl
    rw [ho, hz] at e0
    obtain ⟨a, a1, a2, a3, a4, a5⟩ := h1 _ x (by simpa using e0) (by omega)
    obtain ⟨b, b1, b2, b3, b4⟩ := h2 cs xs g1 (by simpa using g2) (fun i f' hf => by have := g3 (i + 1) f' (by simpa using hf); simpa using this) (by omega)
    have ed : cs.drop o = (cs.drop o).take z ++ cs.drop (o + z) := by rw [← List.drop_drop, List.take_append_drop]
    refine ⟨(a, b), ?_, ?_, ⟨a4, b3⟩, ?_⟩
    · rw [ed]; exact VL_app a1 b1
    · rw [ed]; intro v hv
      rcases List.mem_append.1 hv with hv | hv
      · exact a3 v hv
      · exact b2 v hv
    · simp only [List.map_cons, Rows.uptoBulkAll]; omega
theorem RdS.rd {n L : Nat} {T : TypeId} {fs : Array Field} {F : α → List SV} {ok : α → Prop} {μ : α → Nat} (ht : P.underlying T = some (.struct fs)) (hz : P.cellsOf T = L) (h : RdS enc P w base spare held n L fs.toList 0 F ok μ) : Rd enc P w base spare held (n + 1) T F L ok μ := fun cs x hx hb => by
  obtain ⟨xs, m, hm, rfl, hl, hlen, hf⟩ := DataW.trod_struct ht hx
  obtain rfl : n = m := by omega
  simp only [Rows.uptoBulk] at hb ⊢
  obtain ⟨b, b1, b2, b3, b4⟩ := h cs xs (by omega) (by simpa using hlen) (fun i f e => hf i f (by simpa using e)) (by omega)
  exact ⟨b, by simpa using b1, by omega, by simpa using b2, b3, by omega⟩
theorem Rd.map {k e z : Nat} {F : α → List SV} {ok : α → Prop} {μ : α → Nat} (h : Rd enc P w base spare held k e F z ok μ) (g : α → β) {F' : β → List SV} {ok' : β → Prop} {μ' : β → Nat} (hF : ∀ a, F' (g a) = F a) (hok : ∀ a, ok a → ok' (g a)) (hμ : ∀ a, μ' (g a) ≤ μ a) : Rd enc P w base spare held k e F' z ok' μ' := fun cs x hx hb => by
  obtain ⟨a, a1, a2, a3, a4, a5⟩ := h cs x hx hb
  exact ⟨g a, by rw [hF]; exact a1, a2, a3, hok a a4, by have := hμ a; omega⟩
theorem VL_one {c : Cx} {s : SV} {v : Value} (h : V c s v) : VL c [s] [v] := VL_iff.2 ⟨h, trivial⟩
theorem rd_int {k : Nat} {T : TypeId} (ht : P.underlying T = some (.int .i64)) : Rd enc P w base spare held k T (fun n : Int => [intE n]) 1 (fun _ => True) (fun _ => 0) := fun cs x hx _ => by
  obtain ⟨n, rfl, rfl, _⟩ := DataW.trod_int ht hx
  exact ⟨n, VL_one (by rw [V]), rfl, by simp [Value.oneCell'], trivial, by simp [Rows.uptoBulk]⟩
theorem rd_bool {k : Nat} {T : TypeId} (ht : P.underlying T = some .bool) : Rd enc P w base spare held k T (fun n : Bool => [.bool n]) 1 (fun _ => True) (fun _ => 0) := fun cs x hx _ => by
  obtain ⟨n, rfl, rfl⟩ := DataW.trod_bool ht hx
  exact ⟨n, VL_one (by rw [V]), rfl, by simp [Value.oneCell'], trivial, by simp [Rows.uptoBulk]⟩
theorem rd_str {k : Nat} {T : TypeId} (ht : P.underlying T = some .string) : Rd enc P w base spare held k T (fun s : ByteArray => [.str s]) 1 (fun s => s.size ≤ BB) (fun s => s.size) := fun cs x hx hb => by
  obtain ⟨s, rfl, rfl, _⟩ := DataW.trod_string ht hx
  have e : s.data.toList.length = s.size := by rw [Array.length_toList]; rfl
  simp only [Rows.uptoBulk] at hb ⊢
  exact ⟨s, VL_one (by rw [V]), rfl, by simp [Value.oneCell'], by omega, by omega⟩
def sumμ (μ : α → Nat) (l : List α) : Nat := (l.map fun a => μ a + 1).sum
theorem sumμ_len (μ : α → Nat) : ∀ l : List α, l.length ≤ sumμ μ l
  | [] => by simp
  | a :: l => by have := sumμ_len μ l; simp only [sumμ, List.map_cons, List.sum_cons, List.length_cons] at this ⊢; omega
theorem rd_list {k z : Nat} {e : TypeId} {F : α → List SV} {f : α → SV} {ok : α → Prop} {μ : α → Nat} (hf : ∀ a, f a = .agg (F a)) (hs : ∀ a, (f a).storable = true) (hR : Rd enc P w base spare held k e F z ok μ) (hz : P.cellsOf e = z) (hz0 : 0 < z) (a : Addr) :
    ∀ (ys : List (DataW H × List MemPlace)) (i : Nat), (∀ j, j < ys.length → (w.cells? base (a.add ((i + j) * P.cellsOf e)) (P.cellsOf e)).bind (DataW.trod enc P w base spare held k e) = ys[j]?) → Rows.uptoBulkAll (ys.map (·.1)) ≤ BB →
      ∃ l : List α, ∃ us : List Value, l.length = ys.length ∧ All2 (V (cx0 w)) (l.map f) us ∧ (∀ u ∈ us, u.cells.size = z) ∧ (∀ v ∈ us.flatMap (·.cells.toList), v.oneCell' = true) ∧ (∀ j v, (us.flatMap (·.cells.toList))[j]? = some v → w.cell? (a.add (i * z + j)) = some v) ∧ (∀ a ∈ l, ok a) ∧ sumμ μ l ≤ Rows.uptoBulkAll (ys.map (·.1))
  | [], i, _, _ => ⟨[], [], rfl, trivial, by simp, by simp, by simp, by simp, by simp [sumμ]⟩
  | y :: ys, i, hy, hb => by
    simp only [List.map_cons, Rows.uptoBulkAll] at hb
    have h0 := hy 0 (by simp)
    simp only [List.getElem?_cons_zero, Nat.add_zero] at h0
    obtain ⟨cs, hcs, hx⟩ := Option.bind_eq_some_iff.1 h0
    obtain ⟨_, hcl, hce⟩ := World.cells?_some hcs
    obtain ⟨b, b1, b2, b3, b4, b5⟩ := hR cs y hx (by omega)
    obtain ⟨l, us, l1, l2, l3, l4, l5, l6, l7⟩ := rd_list hf hs hR hz hz0 a ys (i + 1) (fun j hj => by have := hy (j + 1) (by simp; omega); rw [show i + 1 + j = i + (j + 1) by omega]; simpa using this) (by omega)
    have hc : (Value.agg cs.toArray).cells.toList = cs := by simp [Value.cells]
    refine ⟨b :: l, .agg cs.toArray :: us, by simp [l1], ⟨?_, l2⟩, ?_, ?_, ?_, ?_, ?_⟩
    · show V (cx0 w) (f b) (.agg cs.toArray)
      rw [hf, V]; exact ⟨cs, rfl, b1, b3⟩
    · intro u hu
      rcases List.mem_cons.1 hu with rfl | hu
      · simpa [Value.cells] using b2
      · exact l3 u hu
    · intro v hv
      rw [List.flatMap_cons, hc] at hv
      rcases List.mem_append.1 hv with hv | hv
      · exact b3 v hv
      · exact l4 v hv
    · intro j v hv
      rw [List.flatMap_cons, hc] at hv
      by_cases hj : j < z
      · rw [List.getElem?_append_left (by omega)] at hv
        have := hce j (by rw [hz]; exact hj)
        rw [hz, hv] at this
        have e : (a.add (i * z)).add j = a.add (i * z + j) := by
          unfold Addr.add
          by_cases e1 : i * z = 0
          · simp [e1]
          · by_cases e2 : j = 0
            · simp [e1, e2]
            · simp [e1, e2, Nat.add_assoc]
        rw [e] at this; exact this
      · rw [List.getElem?_append_right (by omega)] at hv
        have := l5 (j - cs.length) v hv
        rw [show (i + 1) * z + (j - cs.length) = i * z + j by rw [b2, Nat.add_mul, Nat.one_mul]; omega] at this
        exact this
    · intro q hq
      rcases List.mem_cons.1 hq with rfl | hq
      · exact b4
      · exact l6 q hq
    · simp only [List.map_cons, Rows.uptoBulkAll, sumμ, List.sum_cons] at l7 ⊢; omega
theorem rd_slice {k z : Nat} {e T : TypeId} {F : α → List SV} {f : α → SV} {ok : α → Prop} {μ : α → Nat} (hf : ∀ a, f a = .agg (F a)) (hs : ∀ a, (f a).storable = true) (ht : P.underlying T = some (.slice e)) (hz : P.cellsOf e = z) (hz0 : 0 < z) (hR : ∀ m, m + 1 = k → Rd enc P w base spare held m e F z ok μ) :
    Rd enc P w base spare held k T (fun l : List α => [.imm z (l.map f) false]) 1 (fun l => (∀ a ∈ l, ok a) ∧ sumμ μ l ≤ BB) (sumμ μ) := fun cs x hx hb => by
  rcases DataW.trod_slice ht hx with ⟨rfl, rfl⟩ | ⟨a, len, cap, elems, rest, n, hn, rfl, rfl, _, hlc, _, hel, he, _, _⟩
  · exact ⟨[], VL_one (by rw [V]; exact .inl ⟨rfl, rfl⟩), rfl, by simp [Value.oneCell'], ⟨by simp, by simp [sumμ]⟩, by simp [sumμ, Rows.uptoBulk]⟩
  · simp only [Rows.uptoBulk] at hb ⊢
    obtain ⟨l, us, l1, l2, l3, l4, l5, l6, l7⟩ := rd_list hf hs (hR n hn.symm) hz hz0 a elems 0 (fun j hj => by rw [Nat.zero_add]; exact he j (by omega)) (by omega)
    refine ⟨l, VL_one ?_, rfl, by simp [Value.oneCell'], ⟨l6, by omega⟩, by omega⟩
    rw [V]
    right
    refine ⟨a, cap, us.flatMap (·.cells.toList), by rw [List.length_map, l1, hel], by rw [List.length_map, l1, hel]; exact hlc, by simp, ?_, VE_iff.2 ⟨us, l2, l3, fun s hs' => ?_, rfl⟩⟩
    · have hsp : us.flatMap (·.cells.toList) ≠ [] → a.spot = none := fun hne => by
        obtain ⟨v, r, hv⟩ := List.exists_cons_of_ne_nil hne
        have := World.cell?_spot (l5 0 v (by rw [hv]; rfl))
        simpa [Addr.add] using this
      refine ⟨hsp, fun _ h => h, fun i v hv => ?_, l4⟩
      have h1 := l5 i v hv
      have h2 := hsp (by rintro e; rw [e] at hv; simp at hv)
      rw [Nat.zero_mul, Nat.zero_add] at h1
      have e : a.add i = ⟨a.block, a.off + i, none⟩ := by
        unfold Addr.add
        split
        · subst_vars; cases a; simp_all
        · rfl
      rw [e] at h1; exact h1
    · obtain ⟨q, _, rfl⟩ := List.mem_map.1 hs'
      exact hs q
end
section
variable {H : Type} {enc : TypeId × Value → H} {w : World} {base : Nat} {spare : Nat → Bool} {held : Bool} {α : Type}
theorem Rd.zero {e : TypeId} {F : α → List SV} {z : Nat} {ok : α → Prop} {μ : α → Nat} : Rd enc Tryz.prog w base spare held 0 e F z ok μ := fun cs x hx _ => by simp [DataW.trod] at hx
theorem rInt (k : Nat) : Rd enc Tryz.prog w base spare held k 3 (fun n : Int => [intE n]) 1 (fun _ => True) (fun _ => 0) := rd_int Tryz.underlying3
theorem rStr (k : Nat) : Rd enc Tryz.prog w base spare held k 9 (fun s : ByteArray => [.str s]) 1 (fun s => s.size ≤ BB) (fun s => s.size) := rd_str Tryz.underlying9
theorem rBool (k : Nat) : Rd enc Tryz.prog w base spare held k 4 (fun b : Bool => [.bool b]) 1 (fun _ => True) (fun _ => 0) := rd_bool Tryz.underlying4
def Prp.F (p : Prp) : List SV := [intE p.key, intE p.value]
theorem rPrp : ∀ k, Rd enc Tryz.prog w base spare held k 164 Prp.F 2 (fun _ => True) (fun _ => 0)
  | 0 => Rd.zero
  | k + 1 => (RdS.rd Tryz.underlying164 (by kernel_rfl) (RdS.cons (rInt k) (by kernel_rfl) rfl (RdS.cons (rInt k) (by kernel_rfl) rfl RdS.nil))).map (fun p => ⟨p.1, p.2.1⟩) (fun _ => rfl) (fun _ _ => trivial) (fun _ => Nat.zero_le _)
def Del.F (p : Del) : List SV := [intE p.rev, intE p.move]
theorem rDel : ∀ k, Rd enc Tryz.prog w base spare held k 74 Del.F 2 (fun _ => True) (fun _ => 0)
  | 0 => Rd.zero
  | k + 1 => (RdS.rd Tryz.underlying74 (by kernel_rfl) (RdS.cons (rInt k) (by kernel_rfl) rfl (RdS.cons (rInt k) (by kernel_rfl) rfl RdS.nil))).map (fun p => ⟨p.1, p.2.1⟩) (fun _ => rfl) (fun _ _ => trivial) (fun _ => Nat.zero_le _)
def Layer.F (p : Layer) : List SV := [intE p.rev, intE p.key, intE p.before, .bool p.had]
theorem rLayer : ∀ k, Rd enc Tryz.prog w base spare held k 76 Layer.F 4 (fun _ => True) (fun _ => 0)
  | 0 => Rd.zero
  | k + 1 => (RdS.rd Tryz.underlying76 (by kernel_rfl) (RdS.cons (rInt k) (by kernel_rfl) rfl (RdS.cons (rInt k) (by kernel_rfl) rfl (RdS.cons (rInt k) (by kernel_rfl) rfl (RdS.cons (rBool k) (by kernel_rfl) rfl RdS.nil))))).map (fun p => ⟨p.1, p.2.1, p.2.2.1, p.2.2.2.1⟩) (fun _ => rfl) (fun _ _ => trivial) (fun _ => Nat.zero_le _)
def Rev.F (p : Rev) : List SV := [intE p.id, .str p.author, intE p.time]
theorem rRev : ∀ k, Rd enc Tryz.prog w base spare held k 68 Rev.F 3 (fun r => r.author.size ≤ BB) (fun _ => 0)
  | 0 => Rd.zero
  | k + 1 => (RdS.rd Tryz.underlying68 (by kernel_rfl) (RdS.cons (rInt k) (by kernel_rfl) rfl (RdS.cons (rStr k) (by kernel_rfl) rfl (RdS.cons (rInt k) (by kernel_rfl) rfl RdS.nil)))).map (fun p => (⟨p.1, p.2.1, p.2.2.1⟩ : Rev)) (fun _ => rfl) (fun _ h => h.2.1) (fun _ => Nat.zero_le _)
theorem rProps (k : Nat) : Rd enc Tryz.prog w base spare held k 23 (fun l : List Prp => [propsE l]) 1 (fun l => l.length ≤ BB) (fun _ => 0) :=
  (rd_slice (f := Prp.enc) (F := Prp.F) (fun _ => rfl) Prp.E.st Tryz.underlying23 (by kernel_rfl) (by omega) (fun m _ => rPrp m)).map (fun l => l) (fun _ => rfl) (fun l h => by have := sumμ_len (fun _ => 0) l; have := h.2; omega) (fun _ => Nat.zero_le _)
theorem rDels (k : Nat) : Rd enc Tryz.prog w base spare held k 24 (fun l : List Del => [delsE l]) 1 (fun l => l.length ≤ BB) (fun _ => 0) :=
  (rd_slice (f := Del.enc) (F := Del.F) (fun _ => rfl) Del.E.st Tryz.underlying24 (by kernel_rfl) (by omega) (fun m _ => rDel m)).map (fun l => l) (fun _ => rfl) (fun l h => by have := sumμ_len (fun _ => 0) l; have := h.2; omega) (fun _ => Nat.zero_le _)
theorem rLayers (k : Nat) : Rd enc Tryz.prog w base spare held k 25 (fun l : List Layer => [layersE l]) 1 (fun l => l.length ≤ BB) (fun _ => 0) :=
  (rd_slice (f := Layer.enc) (F := Layer.F) (fun _ => rfl) Layer.E.st Tryz.underlying25 (by kernel_rfl) (by omega) (fun m _ => rLayer m)).map (fun l => l) (fun _ => rfl) (fun l h => by have := sumμ_len (fun _ => 0) l; have := h.2; omega) (fun _ => Nat.zero_le _)
theorem rRevs (k : Nat) : Rd enc Tryz.prog w base spare held k 30 (fun l : List Rev => [revsE l]) 1 (fun l => l.length ≤ BB ∧ ∀ r ∈ l, r.author.size ≤ BB) (fun _ => 0) :=
  (rd_slice (f := Rev.enc) (F := Rev.F) (fun _ => rfl) Rev.E.st Tryz.underlying30 (by kernel_rfl) (by omega) (fun m _ => rRev m)).map (fun l => l) (fun _ => rfl) (fun l h => ⟨by have := sumμ_len (fun _ => 0) l; have := h.2; omega, h.1⟩) (fun _ => Nat.zero_le _)
theorem rMarks : ∀ k, Rd enc Tryz.prog w base spare held k 27 (fun m : Int × Int × List Del × List Layer => [intE m.1, intE m.2.1, delsE m.2.2.1, layersE m.2.2.2]) 4 (fun m => m.2.2.1.length ≤ BB ∧ m.2.2.2.length ≤ BB) (fun _ => 0)
  | 0 => Rd.zero
  | k + 1 => (RdS.rd Tryz.underlying27 (by kernel_rfl) (RdS.cons (rInt k) (by kernel_rfl) rfl (RdS.cons (rInt k) (by kernel_rfl) rfl (RdS.cons (rDels k) (by kernel_rfl) rfl (RdS.cons (rLayers k) (by kernel_rfl) rfl RdS.nil))))).map (fun p => (p.1, p.2.1, p.2.2.1, p.2.2.2.1)) (fun _ => rfl) (fun _ h => ⟨h.2.2.1, h.2.2.2.1⟩) (fun _ => Nat.zero_le _)
theorem rHead : ∀ k, Rd enc Tryz.prog w base spare held k 29 Head.flat 5 Head.sized (fun _ => 0)
  | 0 => Rd.zero
  | k + 1 => (RdS.rd Tryz.underlying29 (by kernel_rfl) (RdS.cons (rProps k) (by kernel_rfl) rfl (RdS.cons (rMarks k) (by kernel_rfl) rfl RdS.nil))).map (fun p => (⟨p.1, p.2.1.1, p.2.1.2.1, p.2.1.2.2.1, p.2.1.2.2.2⟩ : Head)) (fun _ => rfl) (fun _ h => ⟨h.1, h.2.1.1, h.2.1.2⟩) (fun _ => Nat.zero_le _)
def Item.F (x : Item) : List SV := [intE x.kind, intE x.code, intE x.id, .str x.text, propsE x.head.props, intE x.head.ins, intE x.head.move, delsE x.head.dels, layersE x.head.layers, itemsE x.flow, rowsE x.rows]
def Row.F (x : Row) : List SV := [propsE x.head.props, intE x.head.ins, intE x.head.move, delsE x.head.dels, layersE x.head.layers, cellsE x.cells]
def Cell.F (x : Cell) : List SV := [intE x.id, propsE x.head.props, intE x.head.ins, intE x.head.move, delsE x.head.dels, layersE x.head.layers, itemsE x.flow]
def limC (N : Nat) (c : Cell) : Prop := c.head.sized ∧ lim Head.sized BB N c.flow
def limR (N : Nat) (r : Row) : Prop := r.head.sized ∧ r.cells.length ≤ BB ∧ ∀ c ∈ r.cells, limC N c
theorem texts_sum : ∀ l : List Item, textsL l ≤ sumμ (fun x => x.text.size) l
  | [] => by simp [textsL]
  | x :: l => by
    have := texts_sum l
    simp only [textsL, sumμ, List.map_cons, List.sum_cons] at this ⊢; omega
theorem rItems : ∀ k, Rd enc Tryz.prog w base spare held k 22 (fun l : List Item => [itemsE l]) 1 (fun l => ∀ N, k < N → lim Head.sized BB N l) (sumμ fun x => x.text.size) := fun k => by
  induction k using Nat.strongRecOn with
  | ind k ih =>
  have cell : ∀ m, m < k → Rd enc Tryz.prog w base spare held m 173 Cell.F 7 (fun c => ∀ N, m ≤ N → limC N c) (fun _ => 0) := fun m hm => by
    cases m with
    | zero => exact Rd.zero
    | succ m =>
      exact (RdS.rd Tryz.underlying173 (by kernel_rfl) (RdS.cons (rInt m) (by kernel_rfl) rfl (RdS.cons (rHead m) (by kernel_rfl) rfl (RdS.cons (ih m (by omega)) (by kernel_rfl) rfl RdS.nil)))).map (fun p => Cell.mk p.1 p.2.1 p.2.2.1) (fun _ => rfl) (fun _ h N hN => ⟨h.2.1, h.2.2.1 N (by omega)⟩) (fun _ => Nat.zero_le _)
  have cells : ∀ m, m < k → Rd enc Tryz.prog w base spare held m 169 (fun l : List Cell => [cellsE l]) 1 (fun l => l.length ≤ BB ∧ ∀ c ∈ l, ∀ N, m ≤ N → limC N c) (fun _ => 0) := fun m hm =>
    (rd_slice (f := Cell.enc) (F := Cell.F) (ok := fun c => ∀ N, m ≤ N → limC N c) (fun c => Cell.enc_eq c) Cell.E.st Tryz.underlying169 (by kernel_rfl) (by omega) (fun q hq => (cell q (by omega)).map (fun c => c) (fun _ => rfl) (fun _ h N hN => h N (by omega)) (fun _ => Nat.le_refl _))).map (fun l => l) (fun _ => rfl) (fun l h => ⟨by have := sumμ_len (fun _ => 0) l; have := h.2; omega, h.1⟩) (fun _ => Nat.zero_le _)
  have row : ∀ m, m < k → Rd enc Tryz.prog w base spare held m 171 Row.F 6 (fun r => ∀ N, m ≤ N → limR N r) (fun _ => 0) := fun m hm => by
    cases m with
    | zero => exact Rd.zero
    | succ m =>
      exact (RdS.rd Tryz.underlying171 (by kernel_rfl) (RdS.cons (rHead m) (by kernel_rfl) rfl (RdS.cons (cells m (by omega)) (by kernel_rfl) rfl RdS.nil))).map (fun p => Row.mk p.1 p.2.1) (fun _ => rfl) (fun _ h N hN => ⟨h.1, h.2.1.1, fun c hc => h.2.1.2 c hc N (by omega)⟩) (fun _ => Nat.zero_le _)
  have rows : ∀ m, m < k → Rd enc Tryz.prog w base spare held m 78 (fun l : List Row => [rowsE l]) 1 (fun l => l.length ≤ BB ∧ ∀ c ∈ l, ∀ N, m ≤ N → limR N c) (fun _ => 0) := fun m hm =>
    (rd_slice (f := Row.enc) (F := Row.F) (ok := fun c => ∀ N, m ≤ N → limR N c) (fun c => Row.enc_eq c) Row.E.st Tryz.underlying78 (by kernel_rfl) (by omega) (fun q hq => (row q (by omega)).map (fun c => c) (fun _ => rfl) (fun _ h N hN => h N (by omega)) (fun _ => Nat.le_refl _))).map (fun l => l) (fun _ => rfl) (fun l h => ⟨by have := sumμ_len (fun _ => 0) l; have := h.2; omega, h.1⟩) (fun _ => Nat.zero_le _)
  have item : ∀ m, m < k → Rd enc Tryz.prog w base spare held m 80 Item.F 11 (fun x => ∀ N, m ≤ N → limI Head.sized BB N x) (fun x => x.text.size) := fun m hm => by
    cases m with
    | zero => exact Rd.zero
    | succ m =>
      exact (RdS.rd Tryz.underlying80 (by kernel_rfl) (RdS.cons (rInt m) (by kernel_rfl) rfl (RdS.cons (rInt m) (by kernel_rfl) rfl (RdS.cons (rInt m) (by kernel_rfl) rfl (RdS.cons (rStr m) (by kernel_rfl) rfl (RdS.cons (rHead m) (by kernel_rfl) rfl (RdS.cons (ih m (by omega)) (by kernel_rfl) rfl (RdS.cons (rows m (by omega)) (by kernel_rfl) rfl RdS.nil)))))))).map (fun p => Item.mk p.1 p.2.1 p.2.2.1 p.2.2.2.1 p.2.2.2.2.1 p.2.2.2.2.2.1 p.2.2.2.2.2.2.1) (fun _ => rfl)
        (fun _ h N hN => ⟨h.2.2.2.2.1, h.2.2.2.2.2.1 N (by omega), h.2.2.2.2.2.2.1.1, fun r hr => h.2.2.2.2.2.2.1.2 r hr N (by omega)⟩) (fun p => by show p.2.2.2.1.size ≤ _; omega)
  exact (rd_slice (f := Item.enc) (F := Item.F) (ok := fun x => ∀ N, k ≤ N + 1 → limI Head.sized BB N x) (fun c => Item.enc_eq c) Item.E.st Tryz.underlying22 (by kernel_rfl) (by omega) (fun q hq => (item q (by omega)).map (fun c => c) (fun _ => rfl) (fun _ h N hN => h N (by omega)) (fun _ => Nat.le_refl _))).map (fun l => l) (fun _ => rfl) (fun l h N hN => by
    cases N with
    | zero => omega
    | succ N =>
      have h1 := sumμ_len (fun x : Item => x.text.size) l
      have h2 := texts_sum l
      have h3 := h.2
      exact lim_iff.2 ⟨by omega, by omega, fun x hx => h.1 x hx N (by omega)⟩) (fun _ => Nat.le_refl _)
end
section
variable {H : Type} {enc : TypeId × Value → H} {w : World} {base : Nat} {spare : Nat → Bool} {held : Bool} {α : Type}
def Style.F (s : Style) : List SV := [intE s.id, intE s.kind, .str s.name, intE s.base, intE s.next, propsE s.props]
def Level.F (s : Level) : List SV := [intE s.format, intE s.start, .str s.template, intE s.restart]
theorem rLevel : ∀ k, Rd enc Tryz.prog w base spare held k 115 Level.F 4 (fun s => s.template.size ≤ BB) (fun _ => 0)
  | 0 => Rd.zero
  | k + 1 => (RdS.rd Tryz.underlying115 (by kernel_rfl) (RdS.cons (rInt k) (by kernel_rfl) rfl (RdS.cons (rInt k) (by kernel_rfl) rfl (RdS.cons (rStr k) (by kernel_rfl) rfl (RdS.cons (rInt k) (by kernel_rfl) rfl RdS.nil))))).map
      (fun p => (⟨p.1, p.2.1, p.2.2.1, p.2.2.2.1⟩ : Level)) (fun _ => rfl) (fun _ h => h.2.2.1) (fun _ => Nat.zero_le _)
def Lst.F (s : Lst) : List SV := [intE s.id, levelsE s.levels]
def Comment.F (c : Comment) : List SV := [intE c.id, intE c.parent, .str c.author, intE c.time, .str c.text, .bool c.done]
theorem rComment : ∀ k, Rd enc Tryz.prog w base spare held k 71 Comment.F 6 (fun s => s.author.size ≤ BB ∧ s.text.size ≤ BB) (fun _ => 0)
  | 0 => Rd.zero
  | k + 1 => (RdS.rd Tryz.underlying71 (by kernel_rfl) (RdS.cons (rInt k) (by kernel_rfl) rfl (RdS.cons (rInt k) (by kernel_rfl) rfl (RdS.cons (rStr k) (by kernel_rfl) rfl (RdS.cons (rInt k) (by kernel_rfl) rfl (RdS.cons (rStr k) (by kernel_rfl) rfl (RdS.cons (rBool k) (by kernel_rfl) rfl RdS.nil))))))).map
      (fun p => (⟨p.1, p.2.1, p.2.2.1, p.2.2.2.1, p.2.2.2.2.1, p.2.2.2.2.2.1⟩ : Comment)) (fun _ => rfl) (fun _ h => ⟨h.2.2.1, h.2.2.2.2.1⟩) (fun _ => Nat.zero_le _)
def Var.F (c : Var) : List SV := [.str c.name, .str c.value]
theorem rVar : ∀ k, Rd enc Tryz.prog w base spare held k 88 Var.F 2 (fun s => s.name.size ≤ BB ∧ s.value.size ≤ BB) (fun _ => 0)
  | 0 => Rd.zero
  | k + 1 => (RdS.rd Tryz.underlying88 (by kernel_rfl) (RdS.cons (rStr k) (by kernel_rfl) rfl (RdS.cons (rStr k) (by kernel_rfl) rfl RdS.nil))).map (fun p => (⟨p.1, p.2.1⟩ : Var)) (fun _ => rfl) (fun _ h => ⟨h.1, h.2.1⟩) (fun _ => Nat.zero_le _)
theorem rComments (k : Nat) : Rd enc Tryz.prog w base spare held k 33 (fun l : List Comment => [commentsE l]) 1 (fun l => l.length ≤ BB ∧ ∀ s ∈ l, s.author.size ≤ BB ∧ s.text.size ≤ BB) (fun _ => 0) :=
  (rd_slice (f := Comment.enc) (F := Comment.F) (fun _ => rfl) Comment.E.st Tryz.underlying33 (by kernel_rfl) (by omega) (fun m _ => rComment m)).map (fun l => l) (fun _ => rfl) (fun l h => ⟨by have := sumμ_len (fun _ => 0) l; have := h.2; omega, h.1⟩) (fun _ => Nat.zero_le _)
theorem rVars (k : Nat) : Rd enc Tryz.prog w base spare held k 34 (fun l : List Var => [varsE l]) 1 (fun l => l.length ≤ BB ∧ ∀ s ∈ l, s.name.size ≤ BB ∧ s.value.size ≤ BB) (fun _ => 0) :=
  (rd_slice (f := Var.enc) (F := Var.F) (fun _ => rfl) Var.E.st Tryz.underlying34 (by kernel_rfl) (by omega) (fun m _ => rVar m)).map (fun l => l) (fun _ => rfl) (fun l h => ⟨by have := sumμ_len (fun _ => 0) l; have := h.2; omega, h.1⟩) (fun _ => Nat.zero_le _)
def Document.F (d : Document) : List SV := [itemsE d.flow] ++ d.«end».flat ++ [revsE d.revs] ++ d.settings.flat
def Scope.F (s : Scope) : List SV := [intE s.id, intE s.a, intE s.b]
theorem Rd.arg {k e z : Nat} {F : α → List SV} {ok : α → Prop} {μ : α → Nat} (h : Rd enc Tryz.prog w base spare held k e F z ok μ) {fs : Array Field} (ht : Tryz.prog.underlying e = some (.struct fs)) {r : Reach} {b0 : Nat} {v : Value} (hv : Value.okWide Tryz.prog w r b0 e v) {x : DataW H × List MemPlace}
    (hx : DataW.trod enc Tryz.prog w base spare held k e v.cells.toList = some x) (hb : Rows.uptoBulk x.1 ≤ BB) : ∃ a, V (cx0 w) (.agg (F a)) v ∧ ok a := by
  simp only [Value.okWide, ht] at hv
  obtain ⟨cs, rfl, _, _⟩ := hv
  obtain ⟨a, a1, a2, a3, a4, a5⟩ := h _ x hx hb
  refine ⟨a, ?_, a4⟩
  rw [V]
  exact ⟨cs.toList, by simp, by simpa [Value.cells] using a1, by simpa [Value.cells] using a3⟩
end
open Go.ChangeShapes Go.WideShapes Go.ChangeAt Go.RowKit
theorem kidsT : Kids Tryz.prog (· < Tryz.prog.types.size) := kids_rows (by kernel_rfl) (by kernel_rfl)
theorem fullT : ∀ t e, t < Tryz.prog.types.size → Tryz.prog.underlying t = some (.slice e) → 0 < Tryz.prog.cellsOf e := slices_full_of Tryz.prog (by kernel_rfl)
section
variable {H : Type} {enc : TypeId × Value → H}
theorem ext_block {W : World} {c' : Cx} (x : Ext (cx0 W) c') {b : Nat} (h : b < W.heap.size) : c'.w.heap[b]? = W.heap[b]? := (x.keep b h (fun h => h)).2
theorem carryAll {P : Program} {w w' : World} {base : Nat} {sp : Nat → Bool} {held : Bool} (hw : ∀ b, b < w.heap.size → w'.heap[b]? = w.heap[b]?) : ∀ {ts : List TypeId} {vs : List Value} {ds : List (DataW H)} {ps : List MemPlace}, DataW.TrodAll enc P w base sp held ts vs ds ps → (∀ p ∈ ps, p.block < w.heap.size) → DataW.TrodAll enc P w' base sp held ts vs ds ps
  | [], [], [], _, h, _ => h
  | _ :: _, _ :: _, _ :: _, _, ⟨p, q, ⟨n, h1⟩, h2, e⟩, hs => by
    have hp : ∀ x ∈ p, w.sameAt w' x := fun x hx => by
      have hb := hs x (by rw [e]; exact List.mem_append_left _ hx)
      cases x with
      | cell b off => simp only [World.sameAt, World.cell?, hw b hb]
      | map b => exact hw b hb
    exact ⟨p, q, ⟨n, DataW.trod_carry n _ _ _ h1 hp⟩, carryAll hw h2 (fun x hx => hs x (by rw [e]; exact List.mem_append_right _ hx)), e⟩
theorem post_still {f : Func} {s : ChangeSpec} {apart fresh handsOn again : Bool} {W W' : World} {args : Array Value} {v : Value} {ds gs : List (DataW H)} {before : List MemPlace} {x : DataW H}
    (hW : DataW.Whole enc Tryz.prog f.params.toList s.vars apart W args.toList ds gs before) (hv : s.vars = []) (hpt : ∀ t ∈ f.params.toList, t < Tryz.prog.types.size)
    (hos : W'.os = W.os) (hout : W'.output = W.output) (hw : ∀ b, b < W.heap.size → W'.heap[b]? = W.heap[b]?)
    (hfn : s.fn H (ds ++ gs) = { results := [x], args := ds })
    (hres : ∀ (b : Nat) (sp : Nat → Bool) (hd : Bool), DataW.TrodAll enc Tryz.prog W' b sp hd f.resultTypes.toList (v.resultList f.resultTypes.size) [x] [])
    (hok : ∀ (j : Nat) (t : TypeId) (r : Value), f.resultTypes[j]? = some t → (v.resultList f.resultTypes.size)[j]? = some r → Value.okWide Tryz.prog W' .any 0 t r) :
    s.post enc Tryz.prog f apart fresh handsOn again W args v W' := by
  have hlt := hW.lt
  have hW2 := hW
  obtain ⟨p, q, h1, h2, rfl, hz, hn⟩ := hW
  rw [hv] at h2
  obtain ⟨rfl, rfl⟩ := trodVars_none h2
  rw [List.append_nil] at hlt hz hn hW2
  have c1 := carryAll hw h1 hlt
  have c2 : ∀ sp : Nat → Bool, (∀ x ∈ p, sp x.block = true) → DataW.TrodAll enc Tryz.prog W' 0 sp true f.params.toList args.toList ds p := fun sp hs => DataW.TrodAll.respare kidsT fullT hpt c1 hs
  have hvars : ∀ sp : Nat → Bool, DataW.TrodVars enc Tryz.prog W' sp s.vars [] [] := fun sp => by rw [hv]; rfl
  refine ⟨ds, [], p, [], p, [], hW2, by rw [hfn]; exact hres _ _ _, by rw [hfn]; exact c2 _ (fun x hx => by simpa using hlt x hx), by rw [hfn]; exact hvars _, ?_, fun _ => ?_⟩
  · refine ⟨hos, hout, fun i hi => ?_⟩
    rw [hw i hi]
    generalize W.heap[i]? = o
    cases o with
    | none => rfl
    | some b => cases b <;> simp
  · refine ⟨hok, x :: ds, [], p, ⟨p, [], by simpa using trodAll_append (c2 _ (fun _ _ => rfl)) (hres 0 (fun _ => true) true), hvars _, by simp, ?_, hn⟩, fun x hx _ => hx⟩
    intro b off hp
    have hb := hlt _ hp
    have := hz b off hp
    simp only [World.frozen?] at this ⊢
    rw [hw b hb]; exact this
theorem rel0 (W : World) : Rel (fun _ => none) (cx0 W) := ⟨fun _ _ h => (by cases h), fun _ _ _ _ _ h => (by cases h), fun b => ⟨fun h => h.elim, fun ⟨_, _, h, _⟩ => (by cases h)⟩⟩
end
end Go.Proofs.YthinbkgpjmjfeaaGreatDoor.Sh
namespace Go.Proofs.YthinbkgpjmjfeaaGreatDoor.Sh
open Proofs
set_option maxRecDepth 10000
structure Rng where
  flow : Int
  a : Int
  b : Int
def Rng.enc (r : Rng) : SV := .agg [intE r.flow, intE r.a, intE r.b]
abbrev rngsE (l : List Rng) : SV := .imm 3 (l.map Rng.enc) false
abbrev strsE (l : List ByteArray) : SV := .imm 1 (l.map SV.str) false
structure Rules where
  ranges : List Rng
  marker : ByteArray
  o1 : Bool
  o2 : Bool
  o3 : Bool
  o4 : Bool
  vars : List ByteArray
def Rules.enc (r : Rules) : SV := .agg [rngsE r.ranges, .str r.marker, .bool r.o1, .bool r.o2, .bool r.o3, .bool r.o4, strsE r.vars]
def flowAt (d : Document) (id : Int) : List Item := ((docFlow d id).map Fl.items).getD []
structure Dsz (d : Document) : Prop where
  hl : d.flow.length ≤ 1048576
  hs : Item.sizedL d.flow
  hv : d.settings.vars.length ≤ 1048576
structure Rsz (r : Rules) : Prop where
  hr : r.ranges.length ≤ 1048576
  hm : r.marker.size ≤ 1048576
  hv : r.vars.length ≤ 1048576
theorem flowAt_ok {d : Document} (D : Dsz d) (id : Int) : (flowAt d id).length ≤ 1048576 ∧ ∀ x ∈ flowAt d id, x.text.size ≤ 1048576 := by
  unfold flowAt
  cases h : docFlow d id with
  | none => simp
  | some f =>
    have hf := flowsOf_ok D.hl D.hs f (List.mem_of_find?_eq_some h)
    exact ⟨hf.1, fun x hx => by
      have := Item.sizedL_mem hf.2 x hx
      cases x; simp only [Item.sized, Item.text] at this ⊢; exact this.1⟩
theorem cFlow {d : Document} (D : Dsz d) (id : Int) : PC 35 [d.enc, intE id] (.tup [itemsE (flowAt d id), .bool (docFlow d id).isSome]) := c34 d id D.hl D.hs
abbrev dcs (d : Document) : List SV := [itemsE d.flow] ++ d.«end».flat ++ [revsE d.revs] ++ d.settings.flat
abbrev rcs (r : Rules) : List SV := [rngsE r.ranges, .str r.marker, .bool r.o1, .bool r.o2, .bool r.o3, .bool r.o4, strsE r.vars]
theorem keep2 {h : Hp} {n : Nat} (ho : Old h n) {x y : Option SObj} : ∀ o z, h o = some z → hset (hset h n x) (n + 1) y o = some z :=
  fun o z e => by have := (ho o z e).1; rw [hset_ne _ _ (by omega), hset_ne _ _ (by omega)]; exact e
theorem fz_none {h : Hp} {n : Nat} (ho : Old h n) (j : Nat) (hj : n ≤ j) : h j = none := by
  cases e : h j with
  | none => rfl
  | some x => have := (ho j x e).1; omega
def rnk (eff : Nat → Bool) : Nat → Nat
  | 0 => 0
  | j + 1 => rnk eff j + (if eff j = true then 1 else 0)
theorem rnk_le (eff : Nat → Bool) {i j : Nat} (h : i ≤ j) : rnk eff i ≤ rnk eff j := by
  induction j with
  | zero => have : i = 0 := by omega
            subst this; exact Nat.le_refl _
  | succ j ih =>
    rcases Nat.lt_or_ge j i with g | g
    · have : i = j + 1 := by omega
      subst this; exact Nat.le_refl _
    · exact Nat.le_trans (ih g) (Nat.le_add_right _ _)
theorem rnk_lt {eff : Nat → Bool} {i j : Nat} (h : i < j) (he : eff i = true) : rnk eff i < rnk eff j :=
  Nat.lt_of_lt_of_le (show rnk eff i < rnk eff (i + 1) by simp [rnk, he]) (rnk_le eff h)
theorem rnk_inj {eff : Nat → Bool} {i j : Nat} (hi : eff i = true) (hj : eff j = true) (h : rnk eff i = rnk eff j) : i = j := by
  rcases Nat.lt_trichotomy i j with g | g | g
  · have := rnk_lt g hi; omega
  · exact g
  · have := rnk_lt g hj; omega
theorem rnk_at {eff : Nat → Bool} {k : Nat} : ∀ {m : Nat}, k < rnk eff m → ∃ j, j < m ∧ eff j = true ∧ rnk eff j = k
  | 0, h => absurd h (Nat.not_lt_zero _)
  | m + 1, h => by
    rcases Nat.lt_or_ge k (rnk eff m) with g | g
    · obtain ⟨j, h1, h2, h3⟩ := rnk_at g; exact ⟨j, by omega, h2, h3⟩
    · simp only [rnk] at h
      by_cases e : eff m = true
      · rw [if_pos e] at h; exact ⟨m, by omega, e, by omega⟩
      · rw [if_neg e] at h; omega
def May (ops : Array Oper) (eff : Nat → Bool) (i k : Nat) : Prop :=
  (eff i = true → k = rnk eff i) ∧ k ≤ rnk eff ops.size ∧ (∀ j, j < ops.size → eff j = true → k ≤ rnk eff j → dirE ops j i = false) ∧ (∀ j, j < ops.size → eff j = true → rnk eff j < k → dirE ops i j = false)
def fAt (rs : List Rec) (f0 : Nat → SV) (i : Nat) : Nat → SV := sel (rs.map Rec.tw) (fun q => decide (q < i)) 0 f0
structure DSeq (E : Env) (P : Program) (N : Nat) (ops : Array Oper) (f0 : Nat → SV) (rs : List Rec) (eff : Nat → Bool) (hs : Nat → Hp) (ns : Nat → Nat) : Prop where
  len : rs.length = ops.size
  stat : staticB ops = true
  dok : ∀ (i : Nat) (o : Oper), ops[i]? = some o → ∀ d, o.dst = some d → d < N
  row : ∀ i j, j < i → i < ops.size → eff j = true → eff i = true → rnk eff i = rnk eff j + 1 → dirE ops j i = true
  ok : ∀ (i : Nat) (o : Oper) (r : Rec), ops[i]? = some o → rs[i]? = some r → r.dst = o.dst ∧
    ((guardF ops (fAt rs f0 i) o = some false ∧ r.val = .tup [] ∧ eff i = false) ∨
     (guardF ops (fAt rs f0 i) o = some true ∧ ∀ k, May ops eff i k → ∀ sa : SA, (∀ x ∈ o.op.operands, evS sa x = evF (fAt rs f0 i) x) →
       stepE E P o sa (hs k) (ns k) fun v h n => v = r.val ∧ h = hs (if eff i = true then k + 1 else k) ∧ n = ns (if eff i = true then k + 1 else k)))
def opSA (f : Nat → SV) : List Operand → SA
  | [] => []
  | .tmp t :: r => (t, f t) :: opSA f r
  | _ :: r => opSA f r
theorem opSA_look {f : Nat → SV} {t : Nat} : ∀ (l : List Operand), (look (opSA f l) t = .junk ∧ .tmp t ∉ l) ∨ look (opSA f l) t = f t
  | [] => .inl ⟨rfl, by simp⟩
  | x :: r => by
    have ih := opSA_look (f := f) (t := t) r
    cases x with
    | tmp s =>
      simp only [opSA, look]
      by_cases e : s = t
      · subst e; simp
      · simp only [e, if_false]
        rcases ih with ⟨h1, h2⟩ | h1
        · exact .inl ⟨h1, by simp [h2, Ne.symm e]⟩
        · exact .inr h1
    | _ =>
      simp only [opSA]
      rcases ih with ⟨h1, h2⟩ | h1
      · exact .inl ⟨h1, by simp [h2]⟩
      · exact .inr h1
theorem opSA_ev {f : Nat → SV} {l : List Operand} {x : Operand} (hx : x ∈ l) : evS (opSA f l) x = evF f x := by
  cases x with
  | tmp t =>
    rcases opSA_look (f := f) (t := t) l with ⟨_, h⟩ | h
    · exact absurd hx h
    · exact h
  | _ => rfl
section
variable {E : Env} {P : Program} {N : Nat} {ops : Array Oper} {f0 : Nat → SV} {rs : List Rec} {eff : Nat → Bool} {hs : Nat → Hp} {ns : Nat → Nat}
structure At2 (E : Env) (N : Nat) (ops : Array Oper) (f0 : Nat → SV) (rs : List Rec) (eff : Nat → Bool) (hs : Nat → Hp) (ns : Nat → Nat) (n0 : Nat) (c0 : Cx) (listed : Array Bool) (k : Nat) (c : Cx) (a : Act) : Prop where
  size : listed.size = ops.size
  closed : ∀ (i : Nat) (o : Oper), ops[i]? = some o → listed.getD i false = true → ∀ e ∈ o.after, Region.binds .any e = true → listed.getD e.on false = true
  kle : k ≤ rnk eff ops.size
  pre : ∀ j, j < ops.size → eff j = true → (listed.getD j false = true ↔ rnk eff j < k)
  inv : E.inv c
  rel : Rel (hs k) c
  fr : FRf E N (sel (rs.map Rec.tw) (fun q => listed.getD q false) 0 f0) c a
  free : Fr (ns k) c
  adv : Adv n0 c0 (ns k) c
theorem draw_step2 (G : DSeq E P N ops f0 rs eff hs ns) {n0 : Nat} {c0 c : Cx} {listed : Array Bool} {k : Nat} {a : Act} (A : At2 E N ops f0 rs eff hs ns n0 c0 listed k c a) {i : Nat} (hi : i ∈ Region.ready .any ops listed)
    {Qr : Exit → Act → World → Prop} {Kr : Act → World → Prop} (hK : ∀ k' c' a', At2 E N ops f0 rs eff hs ns n0 c0 (listed.setIfInBounds i true) k' c' a' → Kr a' c'.w) : wpOpIn E.fc 0 P ops Qr i Kr a c.w := by
  obtain ⟨hun, o, ho, hall⟩ := mem_ready.1 hi
  have hlt := (Array.getElem?_eq_some_iff.1 ho).1
  have hunF : listed.getD i false = false := by rw [getD_lt (by rw [A.size]; exact hlt)] at hun ⊢; exact hun
  obtain ⟨r, hr⟩ : ∃ r, rs[i]? = some r := ⟨rs[i]'(by rw [G.len]; exact hlt), by simp⟩
  obtain ⟨hdst, hok⟩ := G.ok i o r ho hr
  have lsel : ∀ (q : Nat) (w : List (Nat × SV)), (rs.map Rec.tw)[q]? = some w → ∃ rq, rs[q]? = some rq ∧ w = rq.tw := fun q w hq => by
    simp only [List.getElem?_map, Option.map_eq_some_iff] at hq
    obtain ⟨rq, h1, rfl⟩ := hq; exact ⟨rq, h1, rfl⟩
  have oq : ∀ (q : Nat) (rq : Rec), rs[q]? = some rq → ∃ oq, ops[q]? = some oq := fun q rq hq => ⟨ops[q]'(by rw [← G.len]; exact (List.getElem?_eq_some_iff.1 hq).1), by simp⟩
  have e1 : ∀ q, listed.getD q false = false → dirE ops q i = false := fun q hq => by
    unfold dirE
    rw [ho]
    simp only
    rw [Array.any_eq_false']
    intro e he
    rw [Bool.and_eq_true, beq_iff_eq]
    rintro ⟨hb, rfl⟩
    rw [hall e he hb] at hq; cases hq
  have e2 : ∀ q, listed.getD q false = true → dirE ops i q = false := fun q hq => by
    unfold dirE
    cases hoq : ops[q]? with
    | none => rfl
    | some oq =>
      simp only
      rw [Array.any_eq_false']
      intro e he
      rw [Bool.and_eq_true, beq_iff_eq]
      rintro ⟨hb, rfl⟩
      have := A.closed q oq hoq hq e he hb
      rw [hunF] at this; cases this
  have agreeT : ∀ t, t ∈ o.looksAt ops → sel (rs.map Rec.tw) (fun q => listed.getD q false) 0 f0 t = fAt rs f0 i t := fun t ht => by
    refine sel_agree fun q w _ hw hne => ?_
    rw [Nat.sub_zero] at hw
    obtain ⟨rq, hrq, rfl⟩ := lsel q w hw
    obtain ⟨oq', hoq⟩ := oq q rq hrq
    have hdq := (G.ok q oq' rq hoq hrq).1
    rw [tw_keys, hdq]
    intro hdt
    rcases Nat.lt_trichotomy q i with hq | hq | hq
    · have hnl : listed.getD q false = false := by cases hx : listed.getD q false with | false => rfl | true => rw [hx] at hne; simp [hq] at hne
      exact (Oper.apart_spec (staticB_apart G.stat ho hoq hq (e1 q hnl))).1 t hdt ht
    · subst hq; rw [hunF] at hne; simp at hne
    · have hl : listed.getD q false = true := by cases hx : listed.getD q false with | true => rfl | false => rw [hx] at hne; simp [Nat.not_lt.2 (Nat.le_of_lt hq)] at hne
      exact (Oper.apart_spec (staticB_apart G.stat hoq ho hq (e2 q hl))).2.2 t hdt ht
  have hD : (fun q => (listed.setIfInBounds i true).getD q false) = fun q => listed.getD q false || q == i := by
    funext q
    by_cases hq : q = i
    · subst hq; simp [Array.getD_eq_getD_getElem?, A.size, hlt]
    · have : (q == i) = false := by simp; exact hq
      rw [this, Bool.or_false]
      simp [Array.getD_eq_getD_getElem?, Array.getElem?_setIfInBounds_ne (Ne.symm hq)]
  have insT : ∀ t, sel (rs.map Rec.tw) (fun q => listed.getD q false || q == i) 0 f0 t = appW (sel (rs.map Rec.tw) (fun q => listed.getD q false) 0 f0) r.tw t := by
    refine sel_insert hunF (Nat.zero_le _) (by simp [hr]) fun q w hq _ hw hl k hk hk2 => ?_
    rw [Nat.sub_zero] at hw
    obtain ⟨rq, hrq, rfl⟩ := lsel q w hw
    obtain ⟨oq', hoq⟩ := oq q rq hrq
    rw [tw_keys, hdst] at hk
    rw [tw_keys, (G.ok q oq' rq hoq hrq).1] at hk2
    exact (Oper.apart_spec (staticB_apart G.stat hoq ho hq (e2 q hl))).2.1 k hk hk2
  have may : May ops eff i k := by
    refine ⟨fun he => ?_, A.kle, fun j hj hej hk => e1 j ?_, fun j hj hej hk => e2 j ((A.pre j hj hej).2 hk)⟩
    · have h1 : k ≤ rnk eff i := Nat.le_of_not_lt fun g => by rw [(A.pre i hlt he).2 g] at hunF; cases hunF
      rcases Nat.lt_or_ge k (rnk eff i) with g | g
      · obtain ⟨j, h2, h3, h4⟩ := rnk_at (k := rnk eff i - 1) (m := i) (eff := eff) (by omega)
        have h5 := G.row i j h2 hlt h3 he (by omega)
        have h6 : listed.getD j false = true := by
          cases hx : listed.getD j false with
          | true => rfl
          | false => rw [e1 j hx] at h5; cases h5
        have := (A.pre j (by omega) h3).1 h6
        omega
      · omega
    · cases hx : listed.getD j false with
      | false => rfl
      | true => have := (A.pre j hj hej).1 hx; omega
  have behind : ∀ (k' : Nat) (c' : Cx) (u : Value), k' = (if eff i = true then k + 1 else k) → V c' r.val u → Rel (hs k') c' → Fr (ns k') c' → Adv (ns k) c (ns k') c' → Kr (a.put o.dst u) c'.w := by
    intro k' c' u hk' hv R' F' X'
    refine hK k' c' _ ⟨by simp [A.size], fun j oj hoj hl e he hb => ?_, ?_, fun j hj hej => ?_, E.ext X'.ext A.inv, R', ?_, F', A.adv.trans X'⟩
    · by_cases hji : j = i
      · subst hji
        rw [ho] at hoj; cases hoj
        exact getD_set_true (hall e he hb)
      · rw [getD_set_ne false (Ne.symm hji)] at hl
        exact getD_set_true (A.closed j oj hoj hl e he hb)
    · by_cases he : eff i = true
      · rw [if_pos he] at hk'
        have h1 := may.1 he
        have h2 := rnk_lt hlt he
        omega
      · rw [if_neg he] at hk'; rw [hk']; exact A.kle
    · have hDj := congrFun hD j
      rw [hDj]
      by_cases hji : j = i
      · subst hji
        rw [if_pos hej] at hk'
        have := may.1 hej
        simp; omega
      · have : (j == i) = false := by simp; exact hji
        rw [this, Bool.or_false, A.pre j hj hej]
        by_cases he : eff i = true
        · rw [if_pos he] at hk'
          have h1 := may.1 he
          have : rnk eff j ≠ k := fun e => hji (rnk_inj hej he (e.trans h1))
          omega
        · rw [if_neg he] at hk'; rw [hk']
    · rw [hD]
      have : sel (rs.map Rec.tw) (fun q => listed.getD q false || q == i) 0 f0 = appW (sel (rs.map Rec.tw) (fun q => listed.getD q false) 0 f0) r.tw := funext insT
      rw [this, ← hdst]
      have FE : FRf E N (sel (rs.map Rec.tw) (fun q => listed.getD q false) 0 f0) c' a := ⟨A.fr.size, A.fr.defers.mono X'.ext, fun t => V.mono X'.ext (A.fr.val t)⟩
      exact FE.put (fun d hd => G.dok i o ho d (by rw [← hdst]; exact hd)) hv
  have guardEq : guardF ops (sel (rs.map Rec.tw) (fun q => listed.getD q false) 0 f0) o = guardF ops (fAt rs f0 i) o := by
    unfold guardF
    cases hg : o.guard with
    | none => rfl
    | some p =>
      obtain ⟨j, want⟩ := p
      simp only
      cases hd : (ops[j]?).bind (·.dst) with
      | none => rfl
      | some d =>
        simp only
        rw [agreeT d (by simp [Oper.looksAt, hg, hd])]
  unfold wpOpIn
  rw [ho]
  simp only
  rcases hok with ⟨hg, hv, he⟩ | ⟨hg, hstep⟩
  · rw [guardF_rel A.fr (guardEq.trans hg)]
    simp only [Bool.false_eq_true, if_false]
    exact ⟨fun _ _ => trivial, behind k c undef (by rw [he]; rfl) (by rw [hv]; exact V_undef) A.rel A.free (Adv.refl _ _)⟩
  · rw [guardF_rel A.fr (guardEq.trans hg), if_pos rfl]
    have FS : FR E N (opSA (sel (rs.map Rec.tw) (fun q => listed.getD q false) 0 f0) o.op.operands.toList) c a := ⟨A.fr.size, A.fr.defers, fun t => by
      rcases opSA_look (f := sel (rs.map Rec.tw) (fun q => listed.getD q false) 0 f0) (t := t) o.op.operands.toList with ⟨h, _⟩ | h
      · rw [h]; simp [V]
      · rw [h]; exact A.fr.val t⟩
    refine stepE_sound (hstep k may _ fun x hx => ?_) A.inv A.rel A.free FS ?_
    · rw [opSA_ev (by simpa using hx)]
      cases x with
      | tmp t => exact agreeT t (by simp only [Oper.looksAt, List.mem_append, List.mem_filterMap]; exact .inl ⟨.tmp t, by simpa using hx, rfl⟩)
      | _ => rfl
    · rintro v h' n' c' u ⟨rfl, rfl, rfl⟩ hv R' F' X'
      exact behind _ c' u rfl hv R' F' X'
theorem draw_any2 (G : DSeq E P N ops f0 rs eff hs ns) {n0 : Nat} {c0 : Cx} {Qr : Exit → Act → World → Prop}
    (hQ : ∀ c' a', Rel (hs (rnk eff ops.size)) c' → FRf E N (fAt rs f0 ops.size) c' a' → Fr (ns (rnk eff ops.size)) c' → Adv n0 c0 (ns (rnk eff ops.size)) c' → Qr .normal a' c'.w) :
    ∀ (fuel : Nat) (listed : Array Bool) (k : Nat) (c : Cx) (a : Act), At2 E N ops f0 rs eff hs ns n0 c0 listed k c a → unl listed = fuel → wpAnyIn E.fc 0 P .any ops Qr fuel listed a c.w := by
  have done : ∀ (listed : Array Bool) (k : Nat) (c : Cx) (a : Act), At2 E N ops f0 rs eff hs ns n0 c0 listed k c a → Region.ready .any ops listed = [] → Qr .normal a c.w := by
    intro listed k c a A hr
    have hall := all_listed G.stat A.size hr
    have hk : k = rnk eff ops.size := by
      rcases Nat.lt_or_ge k (rnk eff ops.size) with g | g
      · obtain ⟨j, h1, h2, h3⟩ := rnk_at g
        have := (A.pre j h1 h2).1 (hall j h1)
        omega
      · have := A.kle; omega
    subst hk
    have e : sel (rs.map Rec.tw) (fun q => listed.getD q false) 0 f0 = fAt rs f0 ops.size := by
      funext t
      refine sel_agree fun q w _ hw hne => ?_
      have hq := (List.getElem?_eq_some_iff.1 hw).1
      rw [Nat.sub_zero, List.length_map, G.len] at hq
      rw [hall q hq] at hne
      simp [hq] at hne
    have F := A.fr
    rw [e] at F
    exact hQ c a A.rel F A.free A.adv
  intro fuel
  induction fuel with
  | zero =>
    intro listed k c a A hf
    have hr := ready_nil_of A.size hf
    exact ⟨hr, done listed k c a A hr⟩
  | succ fuel ih =>
    intro listed k c a A hf
    refine ⟨done listed k c a A, fun i hi => ?_⟩
    obtain ⟨hun, o, ho, _⟩ := mem_ready.1 hi
    have hlt := (Array.getElem?_eq_some_iff.1 ho).1
    have hF : listed.getD i false = false := by rw [getD_lt (by rw [A.size]; exact hlt)] at hun ⊢; exact hun
    have hu := unl_set (by rw [A.size]; exact hlt) hF
    exact draw_step2 G A hi fun k' c' a' A' => ih _ k' c' a' A' (by omega)
theorem SWE_dseq (hm : P.follows .mixedOrders = true) {id : Nat} {Q : Post} {sa sb : SA} (G : DSeq E P N ops (look sa) rs eff hs ns) (hb : look sb = fAt rs (look sa) ops.size) (hQ : Q .normal sb (hs (rnk eff ops.size)) (ns (rnk eff ops.size))) :
    SWE E P N (.region id ops true) Q sa (hs 0) (ns 0) := by
  intro hd c a I R F A
  refine wpIn_region_any hm ?_
  have hg : ∀ i, (Array.replicate ops.size false).getD i false = false := fun i => by
    rw [Array.getD_eq_getD_getElem?]
    by_cases hi : i < ops.size <;> simp [hi]
  have hsel : ∀ (l : List (List (Nat × SV))) (f : Nat → SV), sel l (fun q => (Array.replicate ops.size false).getD q false) 0 f = f := fun l f => by
    funext t; exact sel_not fun q w _ hD => by rw [hg] at hD; cases hD
  have := draw_any2 G (n0 := ns 0) (c0 := c) (Qr := Lift E N (ns 0) c Q) (fun c' a' R' F' Fr' X' => ?_) ops.size (Array.replicate ops.size false) 0 c.drew a
    ⟨by simp, fun i o _ hl => (by rw [hg] at hl; cases hl), Nat.zero_le _, fun j _ _ => (by rw [hg]; simp), E.ext c.drew_ext I, R.drew, (by rw [hsel]; exact ⟨A.size, A.defers.mono c.drew_ext, fun t => V.mono c.drew_ext (A.val t)⟩), fun j hj => F j hj, ⟨c.drew_ext, Nat.le_refl _, fun _ _ => rfl⟩⟩ (by simp [unl])
  · exact this
  · exact ⟨sb, _, _, c', hQ, rfl, R', Fr', ⟨F'.size, F'.defers, fun t => by rw [hb]; exact F'.val t⟩, X'⟩
end
inductive TB (α : Type) where
  | nil
  | node (x : Option α) (l r : TB α)
section tree
variable {α : Type}
noncomputable def TB.get (t : TB α) : Nat → Option α :=
  TB.rec (motive := fun _ => Nat → Option α) (fun _ => none) (fun x _ _ a b n => Nat.rec (motive := fun _ => Option α) x (fun m _ => cond (Nat.beq (Nat.mod m 2) 0) (a (Nat.div m 2)) (b (Nat.div m 2))) n) t
noncomputable def TB.path (v : Option α) (k : Nat) : Nat → TB α :=
  Nat.rec (motive := fun _ => Nat → TB α) (fun _ => .nil) (fun _ p n => Nat.rec (motive := fun _ => TB α) (.node v .nil .nil) (fun m _ => cond (Nat.beq (Nat.mod m 2) 0) (.node none (p (Nat.div m 2)) .nil) (.node none .nil (p (Nat.div m 2)))) n) k
noncomputable def TB.set (t : TB α) (n : Nat) (v : Option α) : TB α :=
  TB.rec (motive := fun _ => Nat → TB α) (fun n => TB.path v (Nat.succ n) n) (fun x l r a b n => Nat.rec (motive := fun _ => TB α) (.node v l r) (fun m _ => cond (Nat.beq (Nat.mod m 2) 0) (.node x (a (Nat.div m 2)) r) (.node x l (b (Nat.div m 2)))) n) t n
theorem TB.get_nil (n : Nat) : (TB.nil : TB α).get n = none := rfl
theorem TB.get_zero (x : Option α) (l r : TB α) : (TB.node x l r).get 0 = x := rfl
theorem TB.get_succ (x : Option α) (l r : TB α) (m : Nat) : (TB.node x l r).get (m + 1) = if m % 2 = 0 then l.get (m / 2) else r.get (m / 2) := by
  show cond (Nat.beq (m % 2) 0) (l.get (m / 2)) (r.get (m / 2)) = _
  rcases Nat.mod_two_eq_zero_or_one m with h | h <;> rw [h] <;> rfl
theorem TB.path_succ (v : Option α) (k m : Nat) : TB.path v (k + 1) (m + 1) = if m % 2 = 0 then .node none (TB.path v k (m / 2)) .nil else .node none .nil (TB.path v k (m / 2)) := by
  show cond (Nat.beq (m % 2) 0) (TB.node none (TB.path v k (m / 2)) .nil) (.node none .nil (TB.path v k (m / 2))) = _
  rcases Nat.mod_two_eq_zero_or_one m with h | h <;> rw [h] <;> rfl
theorem TB.set_succ (x : Option α) (l r : TB α) (m : Nat) (v : Option α) : (TB.node x l r).set (m + 1) v = if m % 2 = 0 then .node x (l.set (m / 2) v) r else .node x l (r.set (m / 2) v) := by
  show cond (Nat.beq (m % 2) 0) (TB.node x (l.set (m / 2) v) r) (.node x l (r.set (m / 2) v)) = _
  rcases Nat.mod_two_eq_zero_or_one m with h | h <;> rw [h] <;> rfl
theorem TB.get_path (v : Option α) : ∀ (k n m : Nat), n < k → (TB.path v k n).get m = if m = n then v else none
  | k + 1, 0, m, _ => by cases m <;> simp [show TB.path v (k + 1) 0 = .node v .nil .nil from rfl, TB.get_zero, TB.get_succ, TB.get_nil]
  | k + 1, n + 1, 0, _ => by rw [TB.path_succ]; split <;> simp [TB.get_zero]
  | k + 1, n + 1, m + 1, hk => by
    have ih := fun m => TB.get_path v k (n / 2) m (by omega)
    have e : (m + 1 = n + 1) = (m % 2 = n % 2 ∧ m / 2 = n / 2) := by rw [eq_iff_iff]; omega
    rw [TB.path_succ]
    rcases Nat.mod_two_eq_zero_or_one n with hn | hn <;> rcases Nat.mod_two_eq_zero_or_one m with hm | hm <;> simp [TB.get_succ, TB.get_nil, hn, hm, ih, e, -Nat.add_right_cancel_iff]
theorem TB.get_set : ∀ (t : TB α) (n : Nat) (v : Option α) (m : Nat), (t.set n v).get m = if m = n then v else t.get m
  | .nil, n, v, m => by rw [TB.get_nil]; exact TB.get_path v (n + 1) n m (Nat.lt_succ_self n)
  | .node x l r, 0, v, m => by cases m <;> simp [show (TB.node x l r).set 0 v = .node v l r from rfl, TB.get_zero, TB.get_succ]
  | .node x l r, n + 1, v, 0 => by rw [TB.set_succ]; split <;> simp [TB.get_zero]
  | .node x l r, n + 1, v, m + 1 => by
    have e : (m + 1 = n + 1) = (m % 2 = n % 2 ∧ m / 2 = n / 2) := by rw [eq_iff_iff]; omega
    have i1 := fun m => TB.get_set l (n / 2) v m
    have i2 := fun m => TB.get_set r (n / 2) v m
    rw [TB.set_succ]
    rcases Nat.mod_two_eq_zero_or_one n with hn | hn <;> rcases Nat.mod_two_eq_zero_or_one m with hm | hm <;> simp [TB.get_succ, hn, hm, i1, i2, e, -Nat.add_right_cancel_iff]
end tree
noncomputable section
inductive EO where
  | obj (x : SObj)
  | loop (st : LoopState) (pe : Option Code)
abbrev RecF := Nat → LoopState → Option Code → Loop
def toO (Rs : RecF) (o : Nat) : EO → SObj
  | .obj x => x
  | .loop st pe => .loop (Rs o st pe)
def toHp (Rs : RecF) (h : TB EO) : Hp := fun o => (h.get o).map (toO Rs o)
def toHp0 (h : TB EO) : Hp := fun o => match h.get o with | some (.obj x) => some x | _ => none
def isObj (h : TB EO) (o : Nat) : Bool := match h.get o with | some (.loop _ _) => false | _ => true
def hsetE (h : TB EO) (n : Nat) (x : Option EO) : TB EO := TB.set h n x
section heap
variable {Rs : RecF} {h : TB EO}
theorem hp0_eq {o : Nat} (g : isObj h o = true) : toHp0 h o = toHp Rs h o := by
  unfold isObj at g; unfold toHp0 toHp
  cases e : h.get o with
  | none => rfl
  | some x => cases x with | obj x => rfl | loop st pe => rw [e] at g; cases g
theorem hp0_some {o : Nat} {x : SObj} (g : toHp0 h o = some x) : toHp Rs h o = some x := by
  unfold toHp0 at g; unfold toHp
  cases e : h.get o with
  | none => rw [e] at g; cases g
  | some y => cases y with | obj y => rw [e] at g; exact g | loop st pe => rw [e] at g; cases g
theorem toHp_set {n : Nat} {x : Option EO} : toHp Rs (hsetE h n x) = hset (toHp Rs h) n (x.map (toO Rs n)) := by
  funext o
  unfold toHp hset hsetE
  rw [TB.get_set]
  by_cases e : o = n
  · subst e; simp
  · simp [e]
theorem toHp_loop {o : Nat} {st : LoopState} {pe : Option Code} (g : h.get o = some (.loop st pe)) : toHp Rs h o = some (.loop (Rs o st pe)) := by
  unfold toHp; rw [g]; rfl
def appE (h : TB EO) (n : Nat) (out : Out) : TB EO :=
  match out.upd with
  | some (j, x) => match out.new with
    | some y => hsetE (hsetE h j (x.map .obj)) n (some (.obj y))
    | none => hsetE h j (x.map .obj)
  | none => match out.new with
    | some y => hsetE h n (some (.obj y))
    | none => h
theorem appE_eq {n : Nat} {out : Out} : toHp Rs (appE h n out) = out.app (toHp Rs h) n := by
  have e : ∀ (j : Nat) (x : Option SObj), (x.map EO.obj).map (toO Rs j) = x := fun j x => by cases x <;> rfl
  unfold appE Out.app
  obtain ⟨val, upd, new⟩ := out
  cases upd with
  | none => cases new <;> simp [toHp_set, toO]
  | some p => cases new <;> simp [toHp_set, e, toO]
end heap
def lookT (t : TB SV) (i : Nat) : SV := match t.get i with | some v => v | none => .junk
def frc {β : Type} : SV → β → β
  | .int _ (.ofNat m), a => bif Nat.beq m 0 then a else a
  | .int _ (.negSucc m), a => bif Nat.beq m 0 then a else a
  | .bool b, a => bif b then a else a
  | _, a => a
theorem frc_eq {β : Type} (v : SV) (a : β) : frc v a = a := by
  unfold frc; split <;> simp []
def putE (t : TB SV) : Option Tmp → SV → TB SV
  | some d, v => frc v (TB.set t d (some v))
  | none, _ => t
def Ag (sa : SA) (t : TB SV) : Prop := ∀ i, look sa i = lookT t i
theorem lookT_set {t : TB SV} {d i : Nat} {v : SV} : lookT (TB.set t d (some v)) i = if i = d then v else lookT t i := by
  unfold lookT; rw [TB.get_set]; by_cases e : i = d <;> simp [e]
theorem Ag.put {sa : SA} {t : TB SV} (A : Ag sa t) (d : Option Tmp) (v : SV) : Ag (putT sa d v) (putE t d v) := by
  intro i
  cases d with
  | none => exact A i
  | some d =>
    simp only [putE, frc_eq, lookT_set, putT, look]
    by_cases e : d = i
    · subst e; simp
    · simp [e, Ne.symm e, A i]
theorem Ag.look {sa : SA} {t : TB SV} (A : Ag sa t) : Sh.look sa = lookT t := funext A
theorem Ag.ev {sa : SA} {t : TB SV} (A : Ag sa t) : evS sa = evF (lookT t) := by rw [evS_eq, A.look]
def initT : Nat → List SV → TB SV
  | _, [] => .nil
  | i, a :: us => TB.set (initT (i + 1) us) i (some a)
theorem Ag.init : ∀ (us : List SV) (i : Nat), Ag (initSA i us) (initT i us)
  | [], _ => fun j => rfl
  | a :: us, i => fun j => by
    simp only [initSA, initT, lookT_set, Sh.look]
    by_cases e : i = j
    · subst e; simp
    · simp [e, Ne.symm e, Ag.init us (i + 1) j]
def zipT : List (Tmp × SV) → TB SV → TB SV
  | [], t => t
  | p :: r, t => zipT r (TB.set t p.1 (some p.2))
theorem Ag.zip : ∀ (l : List (Tmp × SV)) {sa : SA} {t : TB SV}, Ag sa t → Ag (zipSA l sa) (zipT l t)
  | [], _, _, A => A
  | p :: r, sa, t, A => Ag.zip r (sa := p :: sa) fun j => by
    obtain ⟨d, v⟩ := p
    simp only [Sh.look, lookT_set]
    by_cases e : d = j
    · subst e; simp
    · simp [e, Ne.symm e, A j]
def strK (op : BinOp) (a b : ByteArray) : Option SV :=
  match op with
  | .add => if a.size + b.size ≤ 9223372036854775807 then some (.str ⟨⟨a.data.toList ++ b.data.toList⟩⟩) else none
  | .eql => some (.bool (a.data.toList == b.data.toList))
  | .neq => some (.bool !(a.data.toList == b.data.toList))
  | .lss => some (.bool (Op.bytesLess a.data.toList b.data.toList))
  | .leq => some (.bool (Op.bytesLess a.data.toList b.data.toList || a.data.toList == b.data.toList))
  | .gtr => some (.bool !(Op.bytesLess a.data.toList b.data.toList || a.data.toList == b.data.toList))
  | .geq => some (.bool !(Op.bytesLess a.data.toList b.data.toList))
  | _ => none
theorem toList_data (a : ByteArray) : a.toList = a.data.toList := Go.ByteArray.toList_eq a
theorem strK_eq (op : BinOp) (a b : ByteArray) : strK op a b = strBin op a b := by
  cases op <;> simp only [strK, strBin, toList_data]
  split
  · congr 2
  · rfl
def sliceK (s : ByteArray) (l h : Nat) : ByteArray := ⟨⟨(s.data.toList.take h).drop l⟩⟩
theorem sliceK_eq (s : ByteArray) (l h : Nat) : sliceK s l h = s.extract l h := by
  apply ByteArray.ext
  apply Array.ext'
  simp [sliceK, List.drop_take]
def loadK (P : Program) (h : Hp) (t : TypeId) (a : SV) : Option Out := (loadS P h t a).bind yes
def fieldAddrK (P : Program) (t : TypeId) (x : SV) (i : Nat) : Option Out := (fieldPtr P t x i).bind yes
def fieldK (P : Program) (t : TypeId) (x : SV) (i : Nat) : Option Out :=
  match tfield P t i, x with
  | some (off, ft), .agg cs => ((takeN cs off (tsz P ft)).bind (asm (tagg P ft))).bind yes
  | _, _ => none
def indexAddrK (P : Program) (t : TypeId) (x i : SV) : Option Out := match i with | .int _ n => (indexPtr P t x n).bind yes | _ => none
def allocK (P : Program) (k : Nat) (e : TypeId) : Option Out := if (tzero P e).storable && (tzero P e).cells.length == tsz P e then some { val := .ptr k 0, new := some (.cells (newC e (tzero P e).cells) (rowT e)) } else none
def boxK (k : Nat) (e : TypeId) (x : SV) : Option Out := if x.storable then some { val := .ptr k 0, new := some (.cells x.cells (rowT e)) } else none
def intK (bop : BinOp) (k : IntKind) (a : Int) (k' : IntKind) (b : Int) : Option Out := if k = k' then (intBin bop k a b).bind yes else none
def binK (P : Program) (bop : BinOp) (t : TypeId) (x y : SV) : Option Out :=
  match x, y with
  | .str a, .str b => (strK bop a b).bind yes
  | .int k a, .int k' b => match bop with
    | .shl => (binS false false .shl (.int k a) (.int k' b)).bind yes
    | .shr => (binS false false .shr (.int k a) (.int k' b)).bind yes
    | bop => intK bop k a k' b
  | x, y => (binS (tbool P t) (tptr P t) bop x y).bind yes
def unK (op : UnOp) (x : SV) : Option Out :=
  match op, x with
  | .not, .bool b => yes (.bool !b)
  | .neg, .int i n => yes (.int i (i.wrap (0 - n)))
  | _, _ => none
def sliceSK (P : Program) (t : TypeId) (s : ByteArray) (lo hi mx : Option SV) : Option Out :=
  if !tstring P t || mx.isSome then none else
  match bnd lo (some 0), bnd hi (some s.size) with
  | some l, some h => if 0 ≤ l ∧ l ≤ h ∧ h ≤ s.size then yes (.str (sliceK s l.toNat h.toNat)) else none
  | _, _ => none
def slcK (P : Program) (t : TypeId) (x : SV) (lo hi mx : Option SV) : Option Out :=
  match x with
  | .str s => sliceSK P t s lo hi mx
  | x => (sliceS P t x lo hi mx).bind yes
def extK (x : SV) (i : Nat) : Option Out := match x with | .tup vs => (vs[i]?).bind yes | _ => none
def buildK (P : Program) (ev : Operand → SV) (t : TypeId) (ps : Array (Nat × Operand)) : Option Out :=
  match tzero P t, tplaces P t with
  | .agg z, some pl => (fillS (pl[·]?) z (ps.toList.map fun p => (p.1, ev p.2))).bind fun cs => yes (.agg cs)
  | _, _ => none
def pickK (x a b : SV) : Option Out := match x with | .bool t => yes (if t then a else b) | _ => none
def nilK (x : SV) : Option Out := match x with | .ptr o a => yes (.ptr o a) | .iptr cs => yes (.iptr cs) | _ => none
def lenK (P : Program) (h : Hp) (t : TypeId) (x : SV) : Option Out :=
  match x with
  | .str s => if tstring P t then yes (.int .i64 s.size) else none
  | .imm _ es _ => if (tslice P t).isSome then yes (.int .i64 es.length) else none
  | .sl _ _ _ len _ => if (tslice P t).isSome then yes (.int .i64 len) else none
  | .map o => match h o with | some (.map es) => if (tmap P t).isSome then yes (.int .i64 es.length) else none | _ => none
  | .nils => if (tslice P t).isSome then yes (.int .i64 0) else none
  | _ => none
def biK (P : Program) (h : Hp) (k : Nat) (b : Builtin) (ts : List TypeId) (us : List SV) : Option Out :=
  match b with
  | .len => match ts, us with
    | [t], [x] => lenK P h t x
    | _, _ => none
  | .append => match ts, us with
    | [t, t2], [s, x] => if (tslice P t2).isSome then appendS P h k t s x else if tstring P t2 then appendStr P h k t s x else appendMake P k t t2 s x
    | _, _ => none
  | b => builtinS P h k b ts us
def bcK (P : Program) (ev : Operand → SV) (h : Hp) (k : Nat) (cl : Call) : Option Out :=
  match cl.callee with
  | .builtin b => biK P h k b cl.argTypes.toList (cl.args.toList.map ev)
  | _ => none
theorem biK_eq {P : Program} {h : Hp} {k : Nat} {b : Builtin} {ts : List TypeId} {us : List SV} : biK P h k b ts us = builtinS P h k b ts us := by
  unfold biK
  split
  · rcases ts with _ | ⟨t, _ | ⟨_, _⟩⟩ <;> rcases us with _ | ⟨x, _ | ⟨_, _⟩⟩ <;> first | rfl | (cases x <;> rfl)
  · rcases ts with _ | ⟨t, _ | ⟨_, _ | ⟨_, _⟩⟩⟩ <;> rcases us with _ | ⟨x, _ | ⟨_, _ | ⟨_, _⟩⟩⟩ <;> rfl
  · rfl
def sopK (P : Program) (ev : Operand → SV) (h : Hp) (k : Nat) (op : Op) : Option Out :=
  match op with
  | .move x => yes (ev x)
  | .assign x => yes (ev x)
  | .load t a => loadK P h t (ev a)
  | .store t a x => storeS P h t (ev a) (ev x)
  | .fieldAddr t x i => fieldAddrK P t (ev x) i
  | .field t x i => fieldK P t (ev x) i
  | .indexAddr t x i => indexAddrK P t (ev x) (ev i)
  | .alloc e => allocK P k e
  | .box e x => boxK k e (ev x)
  | .binOp bop t x y _ => binK P bop t (ev x) (ev y)
  | .unOp op _ x => unK op (ev x)
  | .slice t x lo hi mx => slcK P t (ev x) (lo.map ev) (hi.map ev) (mx.map ev)
  | .extract x i => extK (ev x) i
  | .build t ps => buildK P ev t ps
  | .pick x a b => pickK (ev x) (ev a) (ev b)
  | .nilCheck x => nilK (ev x)
  | .call cl => bcK P ev h k cl
  | op => sop P ev h k op
theorem binK_eq {P : Program} {bop : BinOp} {t : TypeId} {x y : SV} : binK P bop t x y = (binS (tbool P t) (tptr P t) bop x y).bind yes := by
  unfold binK
  split
  · rw [strK_eq]
    have : ∀ a b, binS (tbool P t) (tptr P t) bop (.str a) (.str b) = strBin bop a b := fun a b => by cases bop <;> rfl
    rw [this]
  · rename_i k a k' b
    split
    · rfl
    · rfl
    · rename_i h1 h2
      have : binS (tbool P t) (tptr P t) bop (.int k a) (.int k' b) = if k = k' then intBin bop k a b else none := by cases bop <;> first | rfl | exact absurd rfl h1 | exact absurd rfl h2
      rw [this]
      unfold intK
      split <;> rfl
  · rfl
theorem sopK_eq {P : Program} {ev : Operand → SV} {h : Hp} {k : Nat} {op : Op} : sopK P ev h k op = sop P ev h k op := by
  cases op with
  | binOp bop t x y t2 => exact binK_eq
  | slice t x lo hi mx =>
    show slcK P t (ev x) (lo.map ev) (hi.map ev) (mx.map ev) = (sliceS P t (ev x) (lo.map ev) (hi.map ev) (mx.map ev)).bind yes
    generalize ev x = v
    cases v with
    | str s =>
      unfold slcK sliceSK sliceS
      simp only
      split
      · rfl
      · cases bnd (lo.map ev) (some 0) <;> cases bnd (hi.map ev) (some (s.size : Int)) <;> simp only [Option.bind_none]
        split <;> simp only [sliceK_eq, Option.bind_some, Option.bind_none]
    | _ => rfl
  | call cl =>
    obtain ⟨callee, args, ts⟩ := cl
    cases callee with
    | builtin b => exact biK_eq
    | _ => rfl
  | unOp uop t x =>
    have e : sop P ev h k (.unOp uop t x) = match uop, ev x with | .not, .bool b => yes (.bool !b) | .neg, .int i n => yes (.int i (i.wrap (0 - n))) | _, _ => none := rfl
    rw [e]
    show unK uop (ev x) = _
    generalize ev x = v
    cases uop <;> cases v <;> rfl
  | _ => rfl
def semX (P : Program) (ev : Operand → SV) (o : Oper) : Option SV :=
  match o.op with
  | .binOp bop t x y _ =>
    match ev x with
    | .agg cs => match ev y, P.underlying t with
      | .agg ds, some (.struct _) => bif P.stoodInHeld t || P.eqGuardType P.depth t then none else
        match fieldsEq P cs ds (fieldsOfT P t) with
        | some b => match bop with | .eql => some (.bool b) | .neq => some (.bool !b) | _ => none
        | none => none
      | _, _ => none
    | .imm _ (_ :: _) _ => match bop, y with
      | .eql, .const (.slice none 0 0) => bif (tslice P t).isSome then some (.bool false) else none
      | _, _ => none
    | .sl _ _ _ _ _ => match bop, y with
      | .eql, .const (.slice none 0 0) => bif (tslice P t).isSome then some (.bool false) else none
      | _, _ => none
    | _ => none
  | _ => none
theorem SemV.congr {P : Program} {e1 e2 : Operand → SV} {o : Oper} {v : SV} (h : ∀ x ∈ o.op.operands, e1 x = e2 x) (H : SemV P e2 o v) : SemV P e1 o v :=
  ⟨H.1, fun c ev hc hv => H.2 c ev hc fun x hx => by rw [← h x hx]; exact hv x hx⟩
theorem fields_self {P : Program} {t : TypeId} {fs : Array Field} (h : P.underlying t = some (.struct fs)) : P.underlying t = some (.struct (P.fieldsOf t)) := by
  have : P.fieldsOf t = fs := by unfold Program.fieldsOf; rw [h]
  rw [this]; exact h
theorem semV_nilL {P : Program} {evs : Operand → SV} {o : Oper} {t t2 : TypeId} {x : Operand} (ho : o.op = .binOp .eql t x (.const (.slice none 0 0)) t2) (ht : (tslice P t).isSome = true)
    (hx : (∃ z e es f, evs x = .imm z (e :: es) f) ∨ ∃ o a z l f, evs x = .sl o a z l f) : SemV P evs o (.bool false) := by
  refine ⟨by rw [ho]; simp, fun c ev hc hv => ?_⟩
  have hvx := hv x (by simp [ho, Op.operands])
  obtain ⟨e, ht⟩ := Option.isSome_iff_exists.1 ht
  have ht := tslice_some ht
  have fin : ∀ (a : Addr) (l cap : Nat), ev x = .slice (some a) l cap → ∃ u, (execOp ev o).run P c.w = .ok (.value u) c.w ∧ V c (.bool false) u := fun a l cap e =>
    ⟨.bool false, by simp [execOp, ho, e, hc, run_eqGuard (P := P) (a := .slice (some a) l cap), binOp_slice (some a) l cap ht], by simp [V]⟩
  rcases hx with ⟨z, e, es, f, hx⟩ | ⟨o, a, z, l, f, hx⟩
  · rw [hx, V] at hvx
    rcases hvx with ⟨h, _⟩ | ⟨a, cap, vs, h, _⟩
    · cases h
    · exact fin a _ _ h
  · rw [hx, V] at hvx
    obtain ⟨b, st, cap, _, h, _⟩ := hvx
    exact fin _ _ _ h
theorem semX_ok {P : Program} {ev : Operand → SV} {o : Oper} {v : SV} (H : semX P ev o = some v) : SemV P ev o v := by
  unfold semX at H
  split at H <;> try cases H
  rename_i bop t x y t2 ho
  split at H <;> try cases H
  · rename_i cs hx
    split at H <;> try cases H
    rename_i ds fs hy hu
    cases hb : P.stoodInHeld t || P.eqGuardType P.depth t <;> rw [hb] at H <;> simp only [cond_true, cond_false] at H
    · simp only [Bool.or_eq_false_iff] at hb
      split at H <;> try cases H
      rename_i b hf
      split at H <;> try cases H
      · exact sem_structEq ho (.inl rfl) (fields_self hu) hb.1 hb.2 hx hy hf
      · exact sem_structEq ho (.inr rfl) (fields_self hu) hb.1 hb.2 hx hy hf
    · cases H
  · rename_i z e es f hx
    split at H <;> try cases H
    cases ht : (tslice P t).isSome <;> rw [ht] at H <;> simp only [cond_true, cond_false] at H <;> cases H
    exact semV_nilL ho ht (.inl ⟨z, e, es, f, hx⟩)
  · rename_i o a z l f hx
    split at H <;> try cases H
    cases ht : (tslice P t).isSome <;> rw [ht] at H <;> simp only [cond_true, cond_false] at H <;> cases H
    exact semV_nilL ho ht (.inr ⟨o, a, z, l, f, hx⟩)
def semN (P : Program) (o : Oper) : Option SV :=
  match o.op with
  | .buildSlice t 0 ps => bif Nat.beq ps.size 0 && ((tslice P t).bind P.info?).isSome then some (.imm 0 [] true) else none
  | _ => none
def fnB : Fn → Fn → Bool
  | .func f, .func g => Nat.beq f g
  | _, _ => false
theorem fnB_ok {f g : Fn} (h : fnB f g = true) : f = g := by
  cases f <;> cases g <;> simp only [fnB] at h <;> try cases h
  rw [Nat.eq_of_beq_eq_true h]
mutual
def eqS : SV → SV → Bool
  | .bool a, .bool b => decide (a = b)
  | .int k n, .int k' m => decide (k = k') && decide (n = m)
  | .str a, .str b => a.data.toList == b.data.toList
  | .nilp, .nilp => true
  | .nilf, .nilf => true
  | .nilm, .nilm => true
  | .nils, .nils => true
  | .agg a, .agg b => eqL a b
  | .tup a, .tup b => eqL a b
  | .fn f a b, .fn g c d => fnB f g && (eqL a c && eqL b d)
  | .ptr o a, .ptr p b => Nat.beq o p && Nat.beq a b
  | .iptr a, .iptr b => eqL a b
  | .sl o a z l f, .sl o' a' z' l' f' => Nat.beq o o' && (Nat.beq a a' && (Nat.beq z z' && (Nat.beq l l' && decide (f = f'))))
  | .imm z a f, .imm z' a' f' => Nat.beq z z' && (eqL a a' && decide (f = f'))
  | .map o, .map p => Nat.beq o p
  | .yl o, .yl p => Nat.beq o p
  | _, _ => false
def eqL : List SV → List SV → Bool
  | [], [] => true
  | a :: l, b :: m => eqS a b && eqL l m
  | _, _ => false
end
mutual
theorem eqS_ok : ∀ {a b : SV}, eqS a b = true → a = b
  | .bool a, b, h => by cases b <;> simp_all [eqS]
  | .int k n, b, h => by cases b <;> simp_all [eqS]
  | .str a, b, h => by
    cases b <;> simp only [eqS] at h <;> try cases h
    rw [beq_iff_eq] at h
    rename_i b
    have : a = b := by
      cases a; cases b; rename_i x y; cases x; cases y; simp_all
    rw [this]
  | .nilp, b, h => by cases b <;> simp_all [eqS]
  | .nilf, b, h => by cases b <;> simp_all [eqS]
  | .nilm, b, h => by cases b <;> simp_all [eqS]
  | .nils, b, h => by cases b <;> simp_all [eqS]
  | .agg a, b, h => by cases b <;> simp only [eqS] at h <;> first | cases h | rw [eqL_ok h]
  | .tup a, b, h => by cases b <;> simp only [eqS] at h <;> first | cases h | rw [eqL_ok h]
  | .iptr a, b, h => by cases b <;> simp only [eqS] at h <;> first | cases h | rw [eqL_ok h]
  | .fn f a c, b, h => by
    cases b <;> simp only [eqS] at h <;> try cases h
    simp only [Bool.and_eq_true] at h
    rw [fnB_ok h.1, eqL_ok h.2.1, eqL_ok h.2.2]
  | .ptr o a, b, h => by
    cases b <;> simp only [eqS] at h <;> try cases h
    simp only [Bool.and_eq_true] at h
    rw [Nat.eq_of_beq_eq_true h.1, Nat.eq_of_beq_eq_true h.2]
  | .sl o a z l f, b, h => by
    cases b <;> simp only [eqS] at h <;> try cases h
    simp only [Bool.and_eq_true, decide_eq_true_eq] at h
    rw [Nat.eq_of_beq_eq_true h.1, Nat.eq_of_beq_eq_true h.2.1, Nat.eq_of_beq_eq_true h.2.2.1, Nat.eq_of_beq_eq_true h.2.2.2.1, h.2.2.2.2]
  | .imm z a f, b, h => by
    cases b <;> simp only [eqS] at h <;> try cases h
    simp only [Bool.and_eq_true, decide_eq_true_eq] at h
    rw [Nat.eq_of_beq_eq_true h.1, eqL_ok h.2.1, h.2.2]
  | .map o, b, h => by
    cases b <;> simp only [eqS] at h <;> try cases h
    rw [Nat.eq_of_beq_eq_true h]
  | .yl o, b, h => by
    cases b <;> simp only [eqS] at h <;> try cases h
    rw [Nat.eq_of_beq_eq_true h]
  | .junk, b, h => by cases b <;> simp only [eqS] at h <;> cases h
  | .slc _ _ _ _ _, b, h => by cases b <;> simp only [eqS] at h <;> cases h
theorem eqL_ok : ∀ {a b : List SV}, eqL a b = true → a = b
  | [], [], _ => rfl
  | a :: l, b :: m, h => by
    simp only [eqL, Bool.and_eq_true] at h
    rw [eqS_ok h.1, eqL_ok h.2]
  | [], _ :: _, h => by simp only [eqL] at h; cases h
  | _ :: _, [], h => by simp only [eqL] at h; cases h
end
inductive ER (α : Type) where
  | ok (a : α)
  | err (l : List Nat)
structure Rnd where
  o : Nat
  ps : Array Tmp
  assign : Code
  body : Code
  fr : TB SV
structure EMd where
  rds : List Rnd
  ro : Bool
abbrev VO := SV × TB EO × Nat
abbrev CO := Exit × TB SV × TB EO × Nat
structure Orc where
  call : Nat → List SV → Option SV
  look : (Operand → SV) → TB EO → Oper → Option SV
  eff : Nat → List SV → TB EO → Nat → Option (SV × TB EO × Nat)
abbrev RunF := EMd → Code → TB SV → TB EO → Nat → ER CO
section
variable (P : Program) (orc : Orc)
def semR (ev : Operand → SV) (o : Oper) : Option SV :=
  match o.op with
  | .call { callee := .builtin .unsafeSliceData, args, .. } => match args.toList with
    | [x] => match ev x with
      | .sl j off _ len _ => bif Nat.beq len 0 then none else some (.ptr j off)
      | _ => none
    | _ => none
  | _ => none
def bytesK : List SV → Option (List UInt8)
  | [] => some []
  | .int .u8 (.ofNat m) :: r => bif Nat.blt m 256 then match bytesK r with | some l => some (UInt8.ofNat m :: l) | none => none else none
  | _ => none
def semH (ev : Operand → SV) (h : TB EO) (n : Nat) (o : Oper) : Option VO :=
  match o.op with
  | .range t x => match ev x with
    | .map m => bif (tmap P t).isSome then match h.get m with
      | some (.obj (.map es)) => some (.ptr n 0, hsetE (hsetE h m none) n (some (.obj (.iter es none))), n + 1)
      | _ => none
      else none
    | _ => none
  | .next x false => match ev x with
    | .ptr q 0 => match h.get q with
      | some (.obj (.iter [] _)) => some (.tup [.bool false], h, n)
      | some (.obj (.iter [p] _)) => some (.tup [.bool true, p.1, p.2], hsetE h q (some (.obj (.iter [] (some p)))), n)
      | _ => none
    | _ => none
  | .entry x => match ev x with
    | .ptr q 0 => match h.get q with
      | some (.obj (.iter _ (some p))) => some (.tup [p.1, p.2], h, n)
      | _ => none
    | _ => none
  | .call { callee := .builtin .unsafeString, args, argTypes } => match args.toList, argTypes.toList with
    | [x, y], [pt, _] => match ev x, ev y, P.underlying pt with
      | .ptr j 0, .int .i64 (.ofNat m), some (.pointer e) => match h.get j with
        | some (.obj (.cells cs (some e'))) => bif Nat.beq e e' && Nat.beq (P.cellsOf e) 1 then match bytesK cs with
          | some bs => bif Nat.beq bs.length m && (!Nat.beq m 0 && Nat.ble m 9223372036854775807) then some (.str ⟨⟨bs⟩⟩, hsetE h j none, n) else none
          | none => none
          else none
        | _ => none
      | _, _, _ => none
    | _, _ => none
  | _ => none
def opE (t : TB SV) (h : TB EO) (n : Nat) (o : Oper) : ER VO :=
  bif (footS (evF (lookT t)) o.op).all (isObj h) then
    match sopK P (evF (lookT t)) (toHp0 h) n o.op with
    | some out => .ok (out.val, appE h n out, match out.new with | some _ => n + 1 | none => n)
    | none => match semX P (evF (lookT t)) o with
      | some v => .ok (v, h, n)
      | none => match semN P o with
        | some v => .ok (v, h, n)
        | none => match semH P (evF (lookT t)) h n o with
          | some r => .ok r
          | none => match semR (evF (lookT t)) o with
            | some v => .ok (v, h, n)
            | none => match orc.look (evF (lookT t)) h o with
              | some v => .ok (v, h, n)
              | none => .err [2]
  else .err [1]
def stepV (rc ry : Nat → List SV → TB EO → Nat → ER VO) (t : TB SV) (h : TB EO) (n : Nat) (o : Oper) : ER VO :=
  match o.op with
  | .call { callee := .value f, args, .. } =>
    match callee (evF (lookT t) f) (args.toList.map (evF (lookT t))) with
    | some (g, us) => rc g us h n
    | none => match calleeO (evF (lookT t) f) with | some y => ry y (args.toList.map (evF (lookT t))) h n | none => .err [3]
  | _ => opE P orc t h n o
def opsE (rc ry : Nat → List SV → TB EO → Nat → ER VO) (ops : Array Oper) : Nat → List Oper → TB SV → TB EO → Nat → ER CO
  | _, [], t, h, n => .ok (.normal, t, h, n)
  | i, o :: rest, t, h, n =>
    match guardF ops (lookT t) o with
    | some b => match b with
      | true => match stepV P orc rc ry t h n o with
        | .ok (v, h', n') => opsE rc ry ops (i + 1) rest (putE t o.dst v) h' n'
        | .err l => .err (i :: l)
      | false => opsE rc ry ops (i + 1) rest (putE t o.dst (.tup [])) h n
    | none => .err [i, 12]
structure DR where
  g : Bool
  e : Bool
  v : SV
  t : TB SV
def readV (t : TB SV) (h : TB EO) (n : Nat) (o : Oper) : Option SV :=
  bif (footS (evF (lookT t)) o.op).all (isObj h) then
    match sopK P (evF (lookT t)) (toHp0 h) n o.op with
    | some out => match out.upd with
      | some _ => none
      | none => match out.new with
        | some _ => none
        | none => some out.val
    | none => match semX P (evF (lookT t)) o with
      | some v => some v
      | none => match semR (evF (lookT t)) o with
        | some v => some v
        | none => orc.look (evF (lookT t)) h o
  else none
abbrev DO := List DR × TB SV × List (TB EO × Nat) × TB EO × Nat
def drw1 (rc ry : Nat → List SV → TB EO → Nat → ER VO) (ops : Array Oper) : Nat → List Oper → TB SV → TB EO → Nat → ER DO
  | _, [], t, h, n => .ok ([], t, [(h, n)], h, n)
  | i, o :: rest, t, h, n =>
    match guardF ops (lookT t) o with
    | some b => match b with
      | true => match readV P orc t h n o with
        | some v => match drw1 rc ry ops (i + 1) rest (putE t o.dst v) h n with
          | .ok (rs, te, hl, he, ne) => .ok (⟨true, false, v, t⟩ :: rs, te, hl, he, ne)
          | .err l => .err l
        | none => match stepV P orc rc ry t h n o with
          | .ok (v, h', n') => match drw1 rc ry ops (i + 1) rest (putE t o.dst v) h' n' with
            | .ok (rs, te, hl, he, ne) => .ok (⟨true, true, v, t⟩ :: rs, te, (h, n) :: hl, he, ne)
            | .err l => .err l
          | .err l => .err (i :: l)
      | false => match drw1 rc ry ops (i + 1) rest (putE t o.dst (.tup [])) h n with
        | .ok (rs, te, hl, he, ne) => .ok (⟨false, false, .tup [], t⟩ :: rs, te, hl, he, ne)
        | .err l => .err l
    | none => .err [i, 12]
def effB (rs : List DR) (j : Nat) : Bool := match rs[j]? with | some r => r.e | none => false
def rowB (ops : Array Oper) (rs : List DR) : Bool :=
  (List.range rs.length).all fun i => !effB rs i || (List.range i).all fun j => !effB rs j || (!Nat.beq (rnk (effB rs) i) (rnk (effB rs) j + 1) || dirE ops j i)
def mayB (ops : Array Oper) (rs : List DR) (i k : Nat) : Bool :=
  (List.range rs.length).all fun j => !effB rs j || (bif Nat.ble k (rnk (effB rs) j) then !dirE ops j i else !dirE ops i j)
def readB (ops : Array Oper) (rs : List DR) (hl : List (TB EO × Nat)) : Bool :=
  (List.range rs.length).all fun i => match rs[i]?, ops[i]? with
    | some r, some o => r.e || (!r.g || (List.range hl.length).all fun k => !mayB ops rs i k || match hl[k]? with
      | some (h, n) => match readV P orc r.t h n o with | some v => eqS v r.v | none => false
      | none => false)
    | _, _ => true
def noCall (ops : Array Oper) : Bool := ops.toList.all fun o => match o.op with | .call { callee := .value _, .. } => false | _ => true
def drwS (ops : Array Oper) : List Oper → List Rec → TB SV → TB EO → Nat → ER CO
  | [], _, t, h, n => .ok (.normal, t, h, n)
  | o :: rest, tr, t, h, n =>
    match guardF ops (lookT t) o with
    | some b => match b with
      | true => match o.op with
        | .call { callee := .value _, .. } => .err [50]
        | op => bif (footS (evF (lookT t)) op).all (isObj h) then
          match sopK P (evF (lookT t)) (toHp0 h) n op with
          | some out => bif (keysW out.upd.toList ++ footS (evF (lookT t)) op).all (fun k => Nat.blt k n) && indep ops tr.length { dst := o.dst, val := out.val, foot := keysW out.upd.toList ++ footS (evF (lookT t)) op, wr := out.upd.toList, new := (out.new.map fun x => (n, some x)).toList } 0 tr then
              drwS ops rest (tr ++ [{ dst := o.dst, val := out.val, foot := keysW out.upd.toList ++ footS (evF (lookT t)) op, wr := out.upd.toList, new := (out.new.map fun x => (n, some x)).toList }]) (putE t o.dst out.val) (appE h n out) (match out.new with | some _ => n + 1 | none => n)
            else .err [51]
          | none => match semX P (evF (lookT t)) o with
            | some v => bif indep ops tr.length { dst := o.dst, val := v } 0 tr then drwS ops rest (tr ++ [{ dst := o.dst, val := v }]) (putE t o.dst v) h n else .err [52]
            | none => .err [53]
          else .err [54]
      | false => drwS ops rest (tr ++ [{ dst := o.dst, val := .tup [] }]) (putE t o.dst (.tup [])) h n
    | none => .err [55]
def dseqE (rc ry : Nat → List SV → TB EO → Nat → ER VO) (ops : Array Oper) (t : TB SV) (h : TB EO) (n : Nat) : ER CO :=
  match drw1 P orc rc ry ops 0 ops.toList t h n with
  | .ok (rs, te, hl, he, ne) => bif rowB ops rs then bif readB P orc ops rs hl then .ok (.normal, te, he, ne) else .err [40] else .err [41]
  | .err l => .err l
def drawE (rc ry : Nat → List SV → TB EO → Nat → ER VO) (ops : Array Oper) (t : TB SV) (h : TB EO) (n : Nat) : ER CO :=
  bif staticB ops then
    match dseqE P orc rc ry ops t h n with
    | .ok r => .ok r
    | .err l => bif noCall ops then drwS P ops ops.toList [] t h n else .err l
  else .err [42]
def resT (f : Nat → SV) (h : Hp) : List ResultVar → Option (List SV)
  | [] => some []
  | .tmp t :: r => match resT f h r with | some vs => some (f t :: vs) | none => none
  | .cell a t :: r => match loadS P h t (f a) with
    | some v => match resT f h r with | some vs => some (v :: vs) | none => none
    | none => none
def callE (rn : RunF) (rds : List Rnd) (g : Nat) (us : List SV) (h : TB EO) (n : Nat) : ER VO :=
  match orc.call g us with
  | some v => .ok (v, h, n)
  | none =>
  match orc.eff g us h n with
  | some r => .ok r
  | none =>
  match P.funcs[g]? with
  | some fn => match fn.body with
    | some code => bif (fn.name != "runtime.NumGoroutine") && (Code.dok fn.ntmps code && Nat.ble us.length fn.ntmps) then
        match rn ⟨rds, false⟩ code (initT 0 us) h n with
        | .ok (e, t', h', n') =>
          match e with
          | .normal | .ret => match resT P (lookT t') (toHp0 h') fn.results.toList with | some rs => .ok (packS rs, h', n') | none => .err [g, 7]
          | _ => .err [g, 8]
        | .err l => .err (g :: l)
      else .err [g, 9]
    | none => .err [g, 10]
  | none => .err [g, 11]
end
def findRnd : List Rnd → Nat → Option (Rnd × List Rnd)
  | [], _ => none
  | r :: rs, o => bif Nat.beq r.o o then some (r, rs) else findRnd rs o
def yieldE (rn : RunF) (rds : List Rnd) (o : Nat) (args : List SV) (h : TB EO) (n : Nat) : ER VO :=
  match findRnd rds o with
  | some (r, rest) => match h.get o with
    | some (.loop .ready none) => bif Nat.beq args.length r.ps.size then
        match rn ⟨rest, true⟩ r.assign (zipT (r.ps.toList.zip args) r.fr) h n with
        | .ok (.normal, t1, h1, n1) => match h1.get o with
          | some (.loop .ready none) => match rn ⟨rest, true⟩ r.body t1 (hsetE h1 o (some (.loop .busy none))) n1 with
            | .ok (e, _, h2, n2) => match h2.get o with
              | some (.loop .busy none) => match e with
                | .normal => .ok (.bool true, hsetE h2 o (some (.loop .ready none)), n2)
                | .ret => .ok (.bool false, hsetE h2 o (some (.loop .done (some .ret))), n2)
                | .exit id => .ok (.bool false, hsetE h2 o (some (.loop .done (some (.exit id)))), n2)
                | _ => .err [20]
              | _ => .err [21]
            | .err l => .err (22 :: l)
          | _ => .err [23]
        | .ok _ => .err [24]
        | .err l => .err (25 :: l)
      else .err [26]
    | _ => .err [27]
  | none => .err [28]
def rangeE (P : Program) (orc : Orc) (rn : RunF) (m : EMd) (g : Operand) (ps : Array Tmp) (a b : Code) (t : TB SV) (h : TB EO) (n : Nat) : ER CO :=
  match m.ro, evF (lookT t) g with
  | false, .fn (.func f) [] ys => bif m.rds.all (fun r => !Nat.beq r.o n) then
      match callE P orc rn (⟨n, ps, a, b, t⟩ :: m.rds) f (.yl n :: ys) (hsetE h n (some (.loop .ready none))) (n + 1) with
      | .ok (_, h', n') => match h'.get n with
        | some (.loop st pe) => match st with
          | .busy => .err [30]
          | _ => match pe with
            | none => .ok (.normal, t, hsetE h' n none, n')
            | some .ret => .ok (.ret, t, hsetE h' n none, n')
            | some (.exit id) => .ok (.exit id, t, hsetE h' n none, n')
            | _ => .err [31]
        | _ => .err [32]
      | .err l => .err l
    else .err [33]
  | _, _ => .err [34]
def blkE (id : Nat) : Exit → Exit
  | .exit i => bif Nat.beq i id then .normal else .exit i
  | e => e
def seqE (rn : RunF) (m : EMd) (a b : Code) (t : TB SV) (h : TB EO) (n : Nat) : ER CO :=
  match rn m a t h n with
  | .ok (e, t', h', n') => match e with | .normal => rn m b t' h' n' | e => .ok (e, t', h', n')
  | .err l => .err l
def condE (rn : RunF) (m : EMd) (c : Operand) (a b : Code) (t : TB SV) (h : TB EO) (n : Nat) : ER CO :=
  match evF (lookT t) c with
  | .bool b' => match b' with | true => rn m a t h n | false => rn m b t h n
  | _ => .err [5]
def blockE (rn : RunF) (m : EMd) (id : Nat) (b : Code) (t : TB SV) (h : TB EO) (n : Nat) : ER CO :=
  match rn m b t h n with
  | .ok (e, t', h', n') => .ok (blkE id e, t', h', n')
  | .err l => .err l
def loopE (rn : RunF) (m : EMd) (b : Code) (t : TB SV) (h : TB EO) (n : Nat) : ER CO :=
  match rn m b t h n with
  | .ok (e, t', h', n') => match e with | .normal => rn m (.loop b) t' h' n' | e => .ok (e, t', h', n')
  | .err l => .err l
def regE (P : Program) (orc : Orc) (rn : RunF) (m : EMd) (ops : Array Oper) (d : Bool) (t : TB SV) (h : TB EO) (n : Nat) : ER CO :=
  match d with
  | false => opsE P orc (callE P orc rn m.rds) (yieldE rn m.rds) ops 0 ops.toList t h n
  | true => drawE P orc (callE P orc rn m.rds) (yieldE rn m.rds) ops t h n
def evl1 (P : Program) (orc : Orc) (rn : RunF) (m : EMd) (c : Code) (t : TB SV) (h : TB EO) (n : Nat) : ER CO :=
  match c with
  | .skip => .ok (.normal, t, h, n)
  | .seq a b => seqE rn m a b t h n
  | .cond c a b => condE rn m c a b t h n
  | .block id b => blockE rn m id b t h n
  | .exit id => .ok (.exit id, t, h, n)
  | .ret => .ok (.ret, t, h, n)
  | .loop b => loopE rn m b t h n
  | .region _ ops d => regE P orc rn m ops d t h n
  | .rangeFunc g ps a b => rangeE P orc rn m g ps a b t h n
  | _ => .err [13]
def evl (P : Program) (orc : Orc) (k : Nat) : RunF :=
  Nat.rec (motive := fun _ => RunF) (fun _ _ _ _ _ => .err [4]) (fun _ rn => evl1 P orc rn) k
end
def RndOk (P : Program) (I : Cx → Prop) (Rs : RecF) : List Rnd → Env → Prop
  | [], _ => True
  | r :: rest, E => RndOk P I Rs rest E ∧ ∃ (E1 : Env) (l N : Nat) (sa : SA), Ag sa r.fr ∧ (∀ c, E1.inv c → I c) ∧ RndOk P I Rs rest (E1.inRound l) ∧
      ∀ args hy m Q1, hy r.o = some (.loop (Rs r.o .ready none)) → args.length = r.ps.size → roundW P (E1.inRound l) N r.o (Rs r.o) r.assign r.body Q1 (zipSA (r.ps.toList.zip args) sa) hy m → YCallO E P r.o args hy m Q1
section
variable {P : Program} {I : Cx → Prop} {orc : Orc} {Rs : RecF}
theorem RndOk.mono : ∀ {rds : List Rnd} {E E' : Env}, (∀ c, E'.inv c → E.inv c) → RndOk P I Rs rds E → RndOk P I Rs rds E'
  | [], _, _, _, _ => trivial
  | _ :: _, _, _, hi, ⟨h1, E1, l, N, sa, h2, hI, h3, h4⟩ => ⟨RndOk.mono hi h1, E1, l, N, sa, h2, hI, h3, fun args hy m Q1 x y z c vs l' e I => h4 args hy m Q1 x y z c vs l' e (hi _ I)⟩
theorem RndOk.rs {Rs' : RecF} : ∀ {rds : List Rnd} {E : Env}, (∀ r ∈ rds, Rs' r.o = Rs r.o) → RndOk P I Rs rds E → RndOk P I Rs' rds E
  | [], _, _, _ => trivial
  | r :: rest, E, hr, ⟨h1, E1, l, N, sa, h2, hI, h3, h4⟩ => ⟨RndOk.rs (fun q hq => hr q (by simp [hq])) h1, E1, l, N, sa, h2, hI, RndOk.rs (fun q hq => hr q (by simp [hq])) h3, by
      rw [hr r (by simp)]; exact h4⟩
theorem findRd_ok {o : Nat} {r : Rnd} {rest : List Rnd} {E : Env} : ∀ {rds : List Rnd}, findRnd rds o = some (r, rest) → RndOk P I Rs rds E → r.o = o ∧ RndOk P I Rs (r :: rest) E
  | [], H, _ => by cases H
  | q :: qs, H, hR => by
    unfold findRnd at H
    cases e : Nat.beq q.o o <;> rw [e] at H <;> simp only [cond_true, cond_false] at H
    · exact findRd_ok H hR.1
    · cases H
      exact ⟨Nat.eq_of_beq_eq_true e, hR⟩
theorem hset_rs {Rs' : RecF} {h : TB EO} {n : Nat} {x : Option SObj} (g : ∀ o, o ≠ n → Rs' o = Rs o) : hset (toHp Rs' h) n x = hset (toHp Rs h) n x := by
  funext o
  unfold hset
  by_cases e : o = n
  · simp [e]
  · simp only [e, if_false, toHp]
    cases h.get o with
    | none => rfl
    | some y => cases y <;> simp [toO, g o e]
structure OrcOk (P : Program) (I : Cx → Prop) (orc : Orc) : Prop where
  call : ∀ g us v, orc.call g us = some v → ∀ (E : Env), (∀ c, E.inv c → I c) → ∀ (h : Hp) (n : Nat) (K : SV → Hp → Nat → Prop), K v h n → SCallE E P g us h n K
  eff : ∀ g us h n v h' n', orc.eff g us h n = some (v, h', n') → ∀ (E : Env), (∀ c, E.inv c → I c) → ∀ (Rs : RecF) (K : SV → Hp → Nat → Prop), K v (toHp Rs h') n' → SCallE E P g us (toHp Rs h) n K
  look : ∀ (ev evs : Operand → SV) (h : TB EO) (o : Oper) (v : SV), orc.look ev h o = some v → (∀ x ∈ o.op.operands, evs x = ev x) → ((∀ f args ts, o.op ≠ .call { callee := .value f, args := args, argTypes := ts }) ∧ ∀ t m y x, o.op ≠ .mapUpdate t m y x) ∧
    ∀ (E : Env) (Rs : RecF) (n : Nat) (K : SV → Hp → Nat → Prop), K v (toHp Rs h) n → SemOp E P evs o (toHp Rs h) n K
def Snd (P : Program) (I : Cx → Prop) (rn : RunF) : Prop := ∀ m c t h n e t' h' n', rn m c t h n = .ok (e, t', h', n') → ∀ (E : Env) (N : Nat) (Rs : RecF) (sa : SA) (Q : Post), (∀ c, E.inv c → I c) → RndOk P I Rs m.rds E → (m.ro = false → E.ro = none ∧ E.mks = true) →
  Ag sa t → (∀ sa', Ag sa' t' → Q e sa' (toHp Rs h') n') → SWE E P N c Q sa (toHp Rs h) n
theorem loadE {h : TB EO} {t : TypeId} {s v : SV} (H : loadS P (toHp0 h) t s = some v) : loadS P (toHp Rs h) t s = some v := by
  cases s <;> simp only [loadS] at H ⊢ <;> try exact H
  split at H <;> try cases H
  rename_i cs ty e
  rw [hp0_some e]; exact H
theorem resT_ok {h : TB EO} {sa : SA} {t : TB SV} (A : Ag sa t) : ∀ {l : List ResultVar} {rs : List SV}, resT P (lookT t) (toHp0 h) l = some rs → resS P sa (toHp Rs h) l = some rs
  | [], _, H => H
  | .tmp i :: r, rs, H => by
    simp only [resT] at H
    split at H <;> cases H
    rename_i vs e
    simp only [resS, resT_ok A e, A i, Option.map_some]
  | .cell a i :: r, rs, H => by
    simp only [resT] at H
    split at H <;> try cases H
    rename_i v e1
    split at H <;> cases H
    rename_i vs e2
    simp only [resS, resT_ok A e2, A a, loadE e1]
section
variable {E : Env}
theorem callE_ok (hO : OrcOk P I orc) {rn : RunF} (hr : Snd P I rn) {rds : List Rnd} {g : Nat} {us : List SV} {h : TB EO} {n : Nat} {v : SV} {h' : TB EO} {n' : Nat} (H : callE P orc rn rds g us h n = .ok (v, h', n')) (hI : ∀ c, E.inv c → I c) (hR : RndOk P I Rs rds E)
    {K : SV → Hp → Nat → Prop} (hK : K v (toHp Rs h') n') : SCallE E P g us (toHp Rs h) n K := by
  unfold callE at H
  split at H
  · rename_i v' ho
    cases H
    exact hO.call _ _ _ ho E hI _ _ _ hK
  split at H
  · rename_i r ho
    cases H
    exact hO.eff _ _ _ _ _ _ _ ho E hI Rs _ hK
  split at H <;> try cases H
  rename_i fn hf
  split at H <;> try cases H
  rename_i code hb
  cases hc : ((fn.name != "runtime.NumGoroutine") && (Code.dok fn.ntmps code && Nat.ble us.length fn.ntmps)) <;> rw [hc] at H <;> simp only [cond_true, cond_false] at H
  · cases H
  simp only [Bool.and_eq_true] at hc
  split at H
  · rename_i e t' h2 n2 hrun
    refine SCallE_ofM hf hb hc.1 hc.2.1 (Nat.le_of_ble_eq_true hc.2.2) fun _ _ B => hr _ _ _ _ _ _ _ _ _ hrun (E.call true B) fn.ntmps Rs (initSA 0 us) _ hI (RndOk.mono (E := E) (fun _ i => i) hR) (fun _ => ⟨rfl, rfl⟩) (Ag.init us 0) fun sa' A' => ?_
    split at H
    · split at H <;> cases H
      rename_i rs e
      exact ⟨.inl rfl, rs, resT_ok A' e, .inl hK⟩
    · split at H <;> cases H
      rename_i rs e
      exact ⟨.inr rfl, rs, resT_ok A' e, .inl hK⟩
    · cases H
  · cases H
theorem yieldE_ok {rn : RunF} (hr : Snd P I rn) {rds : List Rnd} {o : Nat} {args : List SV} {h : TB EO} {n : Nat} {v : SV} {h' : TB EO} {n' : Nat} (H : yieldE rn rds o args h n = .ok (v, h', n')) (_hI : ∀ c, E.inv c → I c) (hR : RndOk P I Rs rds E)
    {K : SV → Hp → Nat → Prop} (hK : K v (toHp Rs h') n') : YCallO E P o args (toHp Rs h) n K := by
  unfold yieldE at H
  split at H <;> try cases H
  rename_i r rest hfind
  obtain ⟨rfl, hR1, E1, l, N, sa, A, hI1, hR2, hY⟩ := findRd_ok hfind hR
  split at H <;> try cases H
  rename_i hg
  cases hc : Nat.beq args.length r.ps.size <;> rw [hc] at H <;> simp only [cond_true, cond_false] at H
  · cases H
  split at H <;> try cases H
  rename_i t1 h1 n1 hrun1
  split at H <;> try cases H
  rename_i hg1
  split at H <;> try cases H
  rename_i e t2 h2 n2 hrun2
  split at H <;> try cases H
  rename_i hg2
  have key : ∀ (st : LoopState) (pe : Option Code), toHp Rs (hsetE h2 r.o (some (.loop st pe))) = hset (toHp Rs h2) r.o (some (.loop (Rs r.o st pe))) := fun st pe => toHp_set
  refine hY args _ n K (toHp_loop hg) (Nat.eq_of_beq_eq_true hc) ?_
  refine hr _ _ _ _ _ _ _ _ _ hrun1 (E1.inRound l) N Rs _ _ hI1 hR2 (fun e => by cases e) (Ag.zip _ A) fun sa1 A1 => ⟨rfl, toHp_loop hg1, ?_⟩
  have kb : toHp Rs (hsetE h1 r.o (some (.loop .busy none))) = hset (toHp Rs h1) r.o (some (.loop (Rs r.o .busy none))) := toHp_set
  rw [← kb]
  refine hr _ _ _ _ _ _ _ _ _ hrun2 (E1.inRound l) N Rs _ _ hI1 hR2 (fun e => by cases e) A1 fun sa2 A2 => ⟨toHp_loop hg2, ?_⟩
  split at H <;> cases H
  · rw [key] at hK; exact hK
  · rw [key] at hK; exact hK
  · rw [key] at hK; exact hK
theorem rangeE_ok (hO : OrcOk P I orc) {rn : RunF} (hr : Snd P I rn) {m : EMd} {g : Operand} {ps : Array Tmp} {a b : Code} {t : TB SV} {h : TB EO} {n : Nat} {e : Exit} {t' : TB SV} {h' : TB EO} {n' : Nat} (H : rangeE P orc rn m g ps a b t h n = .ok (e, t', h', n'))
    {N : Nat} {sa : SA} {Q : Post} (hI : ∀ c, E.inv c → I c) (hR : RndOk P I Rs m.rds E) (hE : m.ro = false → E.ro = none ∧ E.mks = true) (A : Ag sa t) (hQ : ∀ sa', Ag sa' t' → Q e sa' (toHp Rs h') n') : SWE E P N (.rangeFunc g ps a b) Q sa (toHp Rs h) n := by
  unfold rangeE at H
  split at H <;> try cases H
  rename_i f ys hro hg
  cases hall : m.rds.all (fun r => !Nat.beq r.o n) <;> rw [hall] at H <;> simp only [cond_true, cond_false] at H
  · cases H
  split at H <;> try cases H
  rename_i v h2 n2 hcall
  refine SWE_rangeFuncO (hE hro).1 (hE hro).2 (by rw [A.ev]; exact hg) fun E1 l R hi hY => ?_
  obtain ⟨Rs', hRs'⟩ : ∃ Rs' : RecF, Rs' = fun o => if o = n then R else Rs o := ⟨_, rfl⟩
  have hat : Rs' n = R := by rw [hRs']; simp
  have hno : ∀ o, o ≠ n → Rs' o = Rs o := fun o ho => by rw [hRs']; simp [ho]
  have hne : ∀ r ∈ m.rds, Rs' r.o = Rs r.o := fun r hrm => hno _ fun e => by
    have := List.all_eq_true.1 hall r hrm
    rw [e] at this
    simp at this
  have hR1 : RndOk P I Rs' m.rds E1 := (hR.rs hne).mono hi
  have hRr : RndOk P I Rs' (⟨n, ps, a, b, t⟩ :: m.rds) E1 := ⟨hR1, E1, l, N, sa, A, fun c i => hI c (hi c i), RndOk.mono (E := E1) (fun _ i => i) hR1, by simp only [hat]; exact hY⟩
  have e1 : hset (toHp Rs h) n (some (.loop (R .ready none))) = toHp Rs' (hsetE h n (some (.loop .ready none))) := by
    rw [toHp_set, hset_rs hno, ← hat]; rfl
  rw [e1]
  refine callE_ok hO hr hcall (fun c i => hI c (hi c i)) hRr ?_
  split at H <;> try cases H
  rename_i st pe hst
  have hst' := toHp_loop (Rs := Rs') hst
  rw [hat] at hst'
  have fin : hset (toHp Rs' h2) n none = toHp Rs (hsetE h2 n none) := by rw [toHp_set, hset_rs hno]; rfl
  refine ⟨st, pe, hst', ?_, ?_⟩
  · rintro rfl; cases H
  · rw [fin]
    split at H <;> try cases H
    split at H <;> cases H
    · exact hQ _ A
    · exact hQ _ A
    · exact hQ _ A
theorem sop_at {t : TB SV} {h : TB EO} {n : Nat} {op : Op} (hc : (footS (evF (lookT t)) op).all (isObj h) = true) {sa : SA} (A : ∀ x ∈ op.operands, evS sa x = evF (lookT t) x) :
    sop P (evS sa) (toHp Rs h) n op = sopK P (evF (lookT t)) (toHp0 h) n op :=
  (sop_local (ev := evF (lookT t)) (ev' := evS sa) (h := toHp0 h) (h' := toHp Rs h) (fun x hx => (A x hx).symm) (fun j hj => hp0_eq (List.all_eq_true.1 hc j hj))).symm.trans sopK_eq.symm
theorem stepE_sop {o : Oper} {sa : SA} {h : Hp} {n : Nat} {out : Out} (hs : sop P (evS sa) h n o.op = some out) {K : SV → Hp → Nat → Prop} (hK : K out.val (out.app h n) (if out.new.isSome then n + 1 else n)) : stepE E P o sa h n K := by
  unfold stepE
  split
  · rename_i f args ts ho
    rw [ho] at hs
    simp [sop] at hs
  · rw [hs]; exact hK
theorem stepE_sem {o : Oper} {sa : SA} {h : Hp} {n : Nat} (hs : sop P (evS sa) h n o.op = none) (h1 : ∀ f args ts, o.op ≠ .call { callee := .value f, args := args, argTypes := ts }) (h2 : ∀ t m y x, o.op ≠ .mapUpdate t m y x) {K : SV → Hp → Nat → Prop} (hK : SemOp E P (evS sa) o h n K) : stepE E P o sa h n K := by
  unfold stepE
  split
  · rename_i f args ts ho; exact absurd ho (h1 _ _ _)
  · rw [hs]
    simp only
    exact hK
theorem semX_op {evs : Operand → SV} {o : Oper} {v : SV} (H : semX P evs o = some v) : (∀ f args ts, o.op ≠ .call { callee := .value f, args := args, argTypes := ts }) ∧ ∀ t m y x, o.op ≠ .mapUpdate t m y x := by
  unfold semX at H
  split at H
  · rename_i ho; rw [ho]; simp
  · cases H
theorem semN_ok {evs : Operand → SV} {o : Oper} {v : SV} {h : Hp} {n : Nat} {K : SV → Hp → Nat → Prop} (H : semN P o = some v) (hK : K v h n) : ((∀ f args ts, o.op ≠ .call { callee := .value f, args := args, argTypes := ts }) ∧ ∀ t m y x, o.op ≠ .mapUpdate t m y x) ∧ SemOp E P evs o h n K := by
  unfold semN at H
  split at H
  · rename_i t ps ho
    cases hc : Nat.beq ps.size 0 && ((tslice P t).bind P.info?).isSome <;> rw [hc] at H <;> simp only [cond_true, cond_false] at H <;> cases H
    simp only [Bool.and_eq_true] at hc
    have hp : ps = #[] := by
      have := Nat.eq_of_beq_eq_true hc.1
      exact Array.eq_empty_of_size_eq_zero this
    exact ⟨by rw [ho]; simp, sem_build0 (z := 0) ho hp hc.2 hK⟩
  · cases H
theorem toHp_obj {h : TB EO} {o : Nat} {x : SObj} (g : h.get o = some (.obj x)) : toHp Rs h o = some x := by
  unfold toHp; rw [g]; rfl
theorem semR_ok {evs ev : Operand → SV} {o : Oper} {h : Hp} {n : Nat} {v : SV} (H : semR ev o = some v) (A : ∀ x ∈ o.op.operands, evs x = ev x) {K : SV → Hp → Nat → Prop} (hK : K v h n) :
    ((∀ f args ts, o.op ≠ .call { callee := .value f, args := args, argTypes := ts }) ∧ ∀ t m y x, o.op ≠ .mapUpdate t m y x) ∧ SemOp E P evs o h n K := by
  unfold semR at H
  split at H <;> try cases H
  rename_i args ts ho
  refine ⟨by rw [ho]; simp, ?_⟩
  split at H <;> try cases H
  rename_i x hx
  have hargs : args = #[x] := Array.ext' hx
  subst hargs
  have hxv := A x (by rw [ho]; simp [Op.operands, Call.operands])
  split at H <;> try cases H
  rename_i j off z len full hv
  cases hl : Nat.beq len 0 <;> rw [hl] at H <;> simp only [cond_true, cond_false] at H <;> cases H
  exact sem_sliceData ho (hxv.trans hv) (Nat.ne_of_beq_eq_false hl) hK
theorem bytesK_ok : ∀ {cs : List SV} {bs : List UInt8}, bytesK cs = some bs → cs = bs.map byteV
  | [], bs, H => by cases H; rfl
  | v :: r, bs, H => by
    unfold bytesK at H
    split at H <;> try cases H
    · rename_i e; cases e
    · rename_i m r' e
      cases e
      cases hm : Nat.blt m 256 <;> rw [hm] at H <;> simp only [cond_true, cond_false] at H
      · cases H
      split at H <;> cases H
      rename_i l hl
      rw [bytesK_ok hl, List.map_cons]
      have hm' : m < 256 := by simpa using hm
      have : ((UInt8.ofNat m).toNat : Int) = Int.ofNat m := by rw [UInt8.toNat_ofNat_of_lt' (by simpa using hm')]; rfl
      simp only [byteV, this]
theorem semH_ok {evs ev : Operand → SV} {o : Oper} {h : TB EO} {n : Nat} {v : SV} {h' : TB EO} {n' : Nat} (H : semH P ev h n o = some (v, h', n')) (A : ∀ x ∈ o.op.operands, evs x = ev x) {K : SV → Hp → Nat → Prop} (hK : K v (toHp Rs h') n') :
    ((∀ f args ts, o.op ≠ .call { callee := .value f, args := args, argTypes := ts }) ∧ ∀ t m y x, o.op ≠ .mapUpdate t m y x) ∧ SemOp E P evs o (toHp Rs h) n K := by
  unfold semH at H
  split at H
  · rename_i t x ho
    refine ⟨by rw [ho]; simp, ?_⟩
    have hx := A x (by rw [ho]; simp [Op.operands])
    split at H <;> try cases H
    rename_i m hm
    cases ht : (tmap P t).isSome <;> rw [ht] at H <;> simp only [cond_true, cond_false] at H
    · cases H
    split at H <;> try cases H
    rename_i es hg
    refine sem_range ho ht (hx.trans hm) (toHp_obj hg) ?_
    rw [toHp_set, toHp_set] at hK
    exact hK
  · rename_i x ho
    refine ⟨by rw [ho]; simp, ?_⟩
    have hx := A x (by rw [ho]; simp [Op.operands])
    split at H <;> try cases H
    rename_i q hq
    split at H <;> try cases H
    · rename_i last hg
      exact sem_next ho (hx.trans hq) (toHp_obj hg) (fun i hi => absurd hi (Nat.not_lt_zero _)) fun _ => hK
    · rename_i p last hg
      refine sem_next ho (hx.trans hq) (toHp_obj hg) (fun i hi => ?_) fun e => by cases e
      have : i = 0 := by simp at hi; omega
      subst this
      rw [toHp_set] at hK
      exact hK
  · rename_i x ho
    refine ⟨by rw [ho]; simp, ?_⟩
    have hx := A x (by rw [ho]; simp [Op.operands])
    split at H <;> try cases H
    rename_i q hq
    split at H <;> try cases H
    rename_i left p hg
    exact sem_entry ho (hx.trans hq) (toHp_obj hg) hK
  · rename_i args ts ho
    refine ⟨by rw [ho]; simp, ?_⟩
    split at H <;> try cases H
    rename_i x y pt it hx hts
    have hargs : args = #[x, y] := Array.ext' hx
    have hts' : ts = #[pt, it] := Array.ext' hts
    subst hargs
    subst hts'
    have hxv := A x (by rw [ho]; simp [Op.operands, Call.operands])
    have hyv := A y (by rw [ho]; simp [Op.operands, Call.operands])
    split at H <;> try cases H
    rename_i j m e ex ey hu
    split at H <;> try cases H
    rename_i cs e' hg
    cases hc : Nat.beq e e' && Nat.beq (P.cellsOf e) 1 <;> rw [hc] at H <;> simp only [cond_true, cond_false] at H
    · cases H
    simp only [Bool.and_eq_true] at hc
    split at H <;> try cases H
    rename_i bs hbs
    cases hd : Nat.beq bs.length m && (!Nat.beq m 0 && Nat.ble m 9223372036854775807) <;> rw [hd] at H <;> simp only [cond_true, cond_false] at H <;> cases H
    simp only [Bool.and_eq_true, Bool.not_eq_true'] at hd
    have he := Nat.eq_of_beq_eq_true hc.1
    subst he
    have hm := Nat.eq_of_beq_eq_true hd.1
    subst hm
    have hcs := bytesK_ok hbs
    subst hcs
    rw [toHp_set] at hK
    refine sem_unsafeString ho hu (Nat.eq_of_beq_eq_true hc.2) (hxv.trans ex) (hyv.trans ey) (toHp_obj hg) (fun e0 => ?_) (Nat.le_of_ble_eq_true hd.2.2) hK
    rw [e0] at hd
    exact absurd hd.2.1 (by simp)
  · cases H
theorem opE_ok (hO : OrcOk P I orc) {t : TB SV} {h : TB EO} {n : Nat} {o : Oper} {v : SV} {h' : TB EO} {n' : Nat} (H : opE P orc t h n o = .ok (v, h', n')) {sa : SA} (A : ∀ x ∈ o.op.operands, evS sa x = evF (lookT t) x) {K : SV → Hp → Nat → Prop} (hK : K v (toHp Rs h') n') : stepE E P o sa (toHp Rs h) n K := by
  unfold opE at H
  cases hc : (footS (evF (lookT t)) o.op).all (isObj h) <;> rw [hc] at H <;> simp only [cond_true, cond_false] at H
  · cases H
  have hsa := sop_at (Rs := Rs) (P := P) (n := n) hc A
  split at H
  · rename_i out hs
    rw [hs] at hsa
    refine stepE_sop hsa ?_
    have e2 : (if out.new.isSome then n + 1 else n) = match out.new with | some _ => n + 1 | none => n := by cases out.new <;> rfl
    rw [e2, ← appE_eq]
    cases H; exact hK
  · rename_i hs
    rw [hs] at hsa
    split at H
    · rename_i v' hx
      cases H
      exact stepE_sem hsa (semX_op hx).1 (semX_op hx).2 ((SemV.congr A (semX_ok hx)).op hK)
    · split at H
      · rename_i v' hx
        cases H
        have := semN_ok (E := E) (P := P) (evs := evS sa) hx hK
        exact stepE_sem hsa this.1.1 this.1.2 this.2
      · split at H
        · rename_i r hx
          cases H
          have := semH_ok (E := E) (P := P) (Rs := Rs) (evs := evS sa) hx A hK
          exact stepE_sem hsa this.1.1 this.1.2 this.2
        · split at H
          · rename_i v' hx
            cases H
            have := semR_ok (E := E) (P := P) (evs := evS sa) hx A hK
            exact stepE_sem hsa this.1.1 this.1.2 this.2
          · split at H <;> try cases H
            rename_i hx
            have := hO.look _ (evS sa) _ _ _ hx A
            exact stepE_sem hsa this.1.1 this.1.2 (this.2 E Rs n K hK)
theorem readV_ok (hO : OrcOk P I orc) {t : TB SV} {h : TB EO} {n : Nat} {o : Oper} {v : SV} (H : readV P orc t h n o = some v) {sa : SA} (A : ∀ x ∈ o.op.operands, evS sa x = evF (lookT t) x) {K : SV → Hp → Nat → Prop} (hK : K v (toHp Rs h) n) : stepE E P o sa (toHp Rs h) n K := by
  unfold readV at H
  cases hc : (footS (evF (lookT t)) o.op).all (isObj h) <;> rw [hc] at H <;> simp only [cond_true, cond_false] at H
  · cases H
  have hsa := sop_at (Rs := Rs) (P := P) (n := n) hc A
  split at H
  · rename_i out hs
    rw [hs] at hsa
    split at H <;> try cases H
    rename_i hu
    split at H <;> try cases H
    rename_i hn
    refine stepE_sop hsa ?_
    have e : out.app (toHp Rs h) n = toHp Rs h := by unfold Out.app; rw [hu, hn]
    rw [e, hn]; exact hK
  · rename_i hs
    rw [hs] at hsa
    split at H
    · rename_i v' hx
      cases H
      exact stepE_sem hsa (semX_op hx).1 (semX_op hx).2 ((SemV.congr A (semX_ok hx)).op hK)
    · split at H
      · rename_i v' hx
        cases H
        have := semR_ok (E := E) (P := P) (evs := evS sa) hx A hK
        exact stepE_sem hsa this.1.1 this.1.2 this.2
      · have := hO.look _ (evS sa) _ _ _ H A
        exact stepE_sem hsa this.1.1 this.1.2 (this.2 E Rs n K hK)
theorem stepV_ok (hO : OrcOk P I orc) {rc ry : Nat → List SV → TB EO → Nat → ER VO} (hc : ∀ g us h n v h' n', rc g us h n = .ok (v, h', n') → ∀ K : SV → Hp → Nat → Prop, K v (toHp Rs h') n' → SCallE E P g us (toHp Rs h) n K)
    (hy : ∀ g us h n v h' n', ry g us h n = .ok (v, h', n') → ∀ K : SV → Hp → Nat → Prop, K v (toHp Rs h') n' → YCallO E P g us (toHp Rs h) n K) {t : TB SV} {h : TB EO} {n : Nat} {o : Oper} {v : SV} {h' : TB EO} {n' : Nat}
    (hstep : stepV P orc rc ry t h n o = .ok (v, h', n')) {sa : SA} (A : ∀ x ∈ o.op.operands, evS sa x = evF (lookT t) x) {K : SV → Hp → Nat → Prop} (hK : K v (toHp Rs h') n') : stepE E P o sa (toHp Rs h) n K := by
  unfold stepV at hstep
  split at hstep
  · rename_i f args ts ho
    have e1 : evS sa f = evF (lookT t) f := A f (by rw [ho]; simp [Op.operands, Call.operands])
    have e2 : args.toList.map (evS sa) = args.toList.map (evF (lookT t)) := List.map_congr_left fun x hx => A x (by rw [ho]; simp [Op.operands, Call.operands]; exact .inr (by simpa using hx))
    unfold stepE
    rw [ho]
    simp only
    rw [e1, e2]
    split at hstep
    · rename_i g us hcal
      rw [hcal]
      exact hc _ _ _ _ _ _ _ hstep _ hK
    · rename_i hcal
      rw [hcal]
      split at hstep <;> try cases hstep
      rename_i y hcy
      have hcy2 : calleeY (evF (lookT t) f) = none := by
        unfold calleeO at hcy
        split at hcy <;> cases hcy
        rename_i e; rw [e]; rfl
      simp only [hcy2, hcy]
      exact hy _ _ _ _ _ _ _ hstep _ hK
  · exact opE_ok hO hstep A hK
theorem opsE_ok (hO : OrcOk P I orc) {rc ry : Nat → List SV → TB EO → Nat → ER VO} {ops : Array Oper} (hc : ∀ g us h n v h' n', rc g us h n = .ok (v, h', n') → ∀ K : SV → Hp → Nat → Prop, K v (toHp Rs h') n' → SCallE E P g us (toHp Rs h) n K)
    (hy : ∀ g us h n v h' n', ry g us h n = .ok (v, h', n') → ∀ K : SV → Hp → Nat → Prop, K v (toHp Rs h') n' → YCallO E P g us (toHp Rs h) n K) :
    ∀ (l : List Oper) (i : Nat) (t : TB SV) (h : TB EO) (n : Nat) (e : Exit) (t' : TB SV) (h' : TB EO) (n' : Nat), opsE P orc rc ry ops i l t h n = .ok (e, t', h', n') → ∀ (sa : SA) (Q : SA → Hp → Nat → Prop), Ag sa t → (∀ sa', e = .normal → Ag sa' t' → Q sa' (toHp Rs h') n') → sopsE E P ops Q l sa (toHp Rs h) n
  | [], _, t, h, n, e, t', h', n', H, sa, Q, A, hQ => by
    cases H
    exact hQ sa rfl A
  | o :: rest, i, t, h, n, e, t', h', n', H, sa, Q, A, hQ => by
    unfold opsE at H
    unfold sopsE
    rw [guardS_eq, A.look]
    split at H <;> try cases H
    rename_i b hg
    rw [hg]
    simp only
    split at H
    · rw [if_pos rfl]
      split at H <;> try cases H
      rename_i v h1 n1 hstep
      have ih := opsE_ok hO hc hy rest (i + 1) (putE t o.dst v) h1 n1 e t' h' n' H (putT sa o.dst v) Q (A.put _ _) hQ
      exact stepV_ok hO hc hy hstep (fun x _ => by rw [A.ev]) ih
    · rw [if_neg (by simp)]
      exact opsE_ok hO hc hy rest (i + 1) _ h n e t' h' n' H _ Q (A.put _ _) hQ
end
theorem opsE_normal {rc ry : Nat → List SV → TB EO → Nat → ER VO} {ops : Array Oper} : ∀ {l : List Oper} {i : Nat} {t : TB SV} {h : TB EO} {n : Nat} {e : Exit} {r : TB SV × TB EO × Nat}, opsE P orc rc ry ops i l t h n = .ok (e, r) → e = .normal
  | [], _, _, _, _, _, _, H => by cases H; rfl
  | o :: rest, i, t, h, n, e, r, H => by
    unfold opsE at H
    split at H <;> try cases H
    split at H
    · split at H <;> try cases H
      exact opsE_normal H
    · exact opsE_normal H
theorem sel_shift {α : Type} {D : Nat → Bool} : ∀ {l : List (List (Nat × α))} {i : Nat} {f : Nat → α}, sel l D (i + 1) f = sel l (fun q => D (q + 1)) i f
  | [], _, _ => rfl
  | w :: l, i, f => by simp only [sel]; exact sel_shift
theorem fAt_zero {rs : List Rec} {f : Nat → SV} : fAt rs f 0 = f := by
  funext t; exact sel_not fun q w _ hD => by simp at hD
theorem fAt_succ {r : Rec} {rs : List Rec} {f : Nat → SV} {p : Nat} : fAt (r :: rs) f (p + 1) = fAt rs (appW f r.tw) p := by
  unfold fAt
  simp only [List.map_cons, sel]
  rw [sel_shift]
  simp
theorem lookT_put {t : TB SV} {d : Option Tmp} {v : SV} : lookT (putE t d v) = appW (lookT t) (Rec.tw { dst := d, val := v }) := by
  funext k
  cases d with
  | none => rfl
  | some d => simp only [putE, frc_eq, lookT_set, Rec.tw, Option.toList_some, List.map_cons, List.map_nil, appW, List.foldl_cons, List.foldl_nil, wr1]
def recsOf (l : List Oper) (rs : List DR) : List Rec := List.zipWith (fun o r => { dst := o.dst, val := r.v }) l rs
theorem rnk_cons {r0 : DR} {rs : List DR} : ∀ p, rnk (effB (r0 :: rs)) (p + 1) = (if r0.e = true then 1 else 0) + rnk (effB rs) p
  | 0 => by simp [rnk, effB]
  | p + 1 => by
    rw [rnk, rnk_cons p]
    have : effB (r0 :: rs) (p + 1) = effB rs p := by simp [effB]
    rw [this, rnk]; omega
structure DFact (P : Program) (orc : Orc) (rc ry : Nat → List SV → TB EO → Nat → ER VO) (ops : Array Oper) (l : List Oper) (rs : List DR) (t te : TB SV) (hl : List (TB EO × Nat)) (he : TB EO) (ne : Nat) (h : TB EO) (n : Nat) : Prop where
  len : rs.length = l.length
  fin : lookT te = fAt (recsOf l rs) (lookT t) l.length
  first : hl[0]? = some (h, n)
  last : hl[rnk (effB rs) l.length]? = some (he, ne)
  sb : ∀ sa, Ag sa t → ∃ sb, Ag sb te
  at_ : ∀ (p : Nat) (o : Oper) (r : DR), l[p]? = some o → rs[p]? = some r → lookT r.t = fAt (recsOf l rs) (lookT t) p ∧ guardF ops (lookT r.t) o = some r.g ∧ (r.g = false → r.v = .tup [] ∧ r.e = false) ∧
    (r.e = true → r.g = true ∧ ∃ h1 n1 h2 n2, hl[rnk (effB rs) p]? = some (h1, n1) ∧ hl[rnk (effB rs) p + 1]? = some (h2, n2) ∧ stepV P orc rc ry r.t h1 n1 o = .ok (r.v, h2, n2))
theorem drw_cons {rc ry : Nat → List SV → TB EO → Nat → ER VO} {ops : Array Oper} {o : Oper} {rest : List Oper} {r0 : DR} {rs : List DR} {te : TB SV} {hl hl0 : List (TB EO × Nat)} {he : TB EO} {ne : Nat} {h : TB EO} {n : Nat} {h' : TB EO} {n' : Nat}
    (IH : DFact P orc rc ry ops rest rs (putE r0.t o.dst r0.v) te hl he ne h' n') (hg : guardF ops (lookT r0.t) o = some r0.g) (h1 : r0.g = false → r0.v = .tup [] ∧ r0.e = false)
    (h3 : r0.e = true → r0.g = true ∧ stepV P orc rc ry r0.t h n o = .ok (r0.v, h', n')) (h0 : r0.e = false → h' = h ∧ n' = n) (hh : hl0 = if r0.e = true then (h, n) :: hl else hl) :
    DFact P orc rc ry ops (o :: rest) (r0 :: rs) r0.t te hl0 he ne h n := by
  have ix : ∀ k, hl0[(if r0.e = true then 1 else 0) + k]? = hl[k]? := fun k => by
    rw [hh]; cases r0.e <;> simp [Nat.add_comm 1 k]
  have hrec : recsOf (o :: rest) (r0 :: rs) = { dst := o.dst, val := r0.v } :: recsOf rest rs := rfl
  refine ⟨by simp [IH.len], ?_, ?_, ?_, fun sa A => IH.sb _ (A.put o.dst r0.v), ?_⟩
  · rw [hrec, List.length_cons, fAt_succ, IH.fin, lookT_put]
  · rw [hh]
    cases e : r0.e
    · obtain ⟨rfl, rfl⟩ := h0 e; simpa using IH.first
    · simp
  · rw [List.length_cons, rnk_cons, ix]; exact IH.last
  · intro p q r hq hr
    cases p with
    | zero =>
      simp only [List.getElem?_cons_zero, Option.some.injEq] at hq hr
      subst hq; subst hr
      refine ⟨fAt_zero.symm, hg, h1, fun e => ⟨(h3 e).1, h, n, h', n', ?_, ?_, (h3 e).2⟩⟩
      · rw [hh, e]; rfl
      · have := ix 0
        rw [e] at this
        simp only [if_true] at this
        rw [show rnk (effB (r0 :: rs)) 0 + 1 = 1 + 0 from rfl, this]; exact IH.first
    | succ p =>
      simp only [List.getElem?_cons_succ] at hq hr
      obtain ⟨a1, a2, a3, a4⟩ := IH.at_ p q r hq hr
      refine ⟨by rw [hrec, fAt_succ, a1, lookT_put], a2, a3, fun e => ?_⟩
      obtain ⟨b1, x1, y1, x2, y2, b2, b3, b4⟩ := a4 e
      refine ⟨b1, x1, y1, x2, y2, ?_, ?_, b4⟩
      · rw [rnk_cons, ix]; exact b2
      · rw [rnk_cons, Nat.add_assoc, ix]; exact b3
theorem drw1_ok {rc ry : Nat → List SV → TB EO → Nat → ER VO} {ops : Array Oper} : ∀ (l : List Oper) (i : Nat) (t : TB SV) (h : TB EO) (n : Nat) (rs : List DR) (te : TB SV) (hl : List (TB EO × Nat)) (he : TB EO) (ne : Nat),
    drw1 P orc rc ry ops i l t h n = .ok (rs, te, hl, he, ne) → DFact P orc rc ry ops l rs t te hl he ne h n
  | [], i, t, h, n, rs, te, hl, he, ne, H => by
    cases H
    exact ⟨rfl, fAt_zero.symm, rfl, rfl, fun sa A => ⟨sa, A⟩, fun p o r hq => by simp at hq⟩
  | o :: rest, i, t, h, n, rs, te, hl, he, ne, H => by
    unfold drw1 at H
    split at H <;> try cases H
    rename_i b hg
    split at H
    · split at H
      · rename_i v hv
        split at H <;> try cases H
        rename_i rs2 te2 hl2 he2 ne2 hrec
        exact drw_cons (r0 := ⟨true, false, v, t⟩) (drw1_ok rest (i + 1) _ h n _ _ _ _ _ hrec) hg (fun e => by cases e) (fun e => by cases e) (fun _ => ⟨rfl, rfl⟩) rfl
      · split at H <;> try cases H
        rename_i v h1 n1 hst
        split at H <;> try cases H
        rename_i rs2 te2 hl2 he2 ne2 hrec
        exact drw_cons (r0 := ⟨true, true, v, t⟩) (drw1_ok rest (i + 1) _ h1 n1 _ _ _ _ _ hrec) hg (fun e => by cases e) (fun _ => ⟨rfl, hst⟩) (fun e => by cases e) rfl
    · split at H <;> try cases H
      rename_i hrec
      exact drw_cons (r0 := ⟨false, false, .tup [], t⟩) (drw1_ok rest (i + 1) _ h n _ _ _ _ _ hrec) hg (fun _ => ⟨rfl, rfl⟩) (fun e => by cases e) (fun _ => ⟨rfl, rfl⟩) rfl
theorem drwS_ok {E : Env} {ops : Array Oper} : ∀ (l : List Oper) (tr : List Rec) (t : TB SV) (h : TB EO) (n : Nat) (e : Exit) (t' : TB SV) (h' : TB EO) (n' : Nat), drwS P ops l tr t h n = .ok (e, t', h', n') → ∀ (sa : SA) (Q : SA → Hp → Nat → Prop), Ag sa t → (∀ sa', e = .normal → Ag sa' t' → Q sa' (toHp Rs h') n') →
    sdrawE E P ops Q l tr sa (toHp Rs h) n
  | [], tr, t, h, n, e, t', h', n', H, sa, Q, A, hQ => by
    cases H
    exact hQ sa rfl A
  | o :: rest, tr, t, h, n, e, t', h', n', H, sa, Q, A, hQ => by
    unfold drwS at H
    unfold sdrawE
    rw [guardS_eq, A.look]
    split at H <;> try cases H
    rename_i b hg
    rw [hg]
    simp only
    split at H
    · rw [if_pos rfl]
      split at H <;> try cases H
      rename_i op hne
      have hno : ∀ f args ts, o.op ≠ .call { callee := .value f, args := args, argTypes := ts } := fun f args ts ho => hne f args ts ho
      cases hc : (footS (evF (lookT t)) o.op).all (isObj h) <;> rw [hc] at H <;> simp only [cond_true, cond_false] at H
      · cases H
      have hsa := sop_at (Rs := Rs) (P := P) (n := n) (sa := sa) hc (fun x _ => by rw [A.ev])
      split at H
      · rename_i out hs
        rw [hs] at hsa
        cases hk : (keysW out.upd.toList ++ footS (evF (lookT t)) o.op).all (fun k => Nat.blt k n) && indep ops tr.length { dst := o.dst, val := out.val, foot := keysW out.upd.toList ++ footS (evF (lookT t)) o.op, wr := out.upd.toList, new := (out.new.map fun x => (n, some x)).toList } 0 tr <;> rw [hk] at H <;> simp only [cond_true, cond_false] at H
        · cases H
        simp only [Bool.and_eq_true, List.all_eq_true] at hk
        have e2 : (if out.new.isSome then n + 1 else n) = match out.new with | some _ => n + 1 | none => n := by cases out.new <;> rfl
        have ih := drwS_ok (E := E) rest _ _ _ _ e t' h' n' H (putT sa o.dst out.val) Q (A.put _ _) hQ
        rw [appE_eq] at ih
        split
        · rename_i f args ts ho; exact absurd ho (hno f args ts)
        · rw [hsa]
          simp only
          rw [A.ev, e2]
          exact ⟨fun k hkm => by simpa using hk.1 k hkm, hk.2, ih⟩
      · rename_i hs
        rw [hs] at hsa
        split at H <;> try cases H
        rename_i v hx
        cases hk : indep ops tr.length { dst := o.dst, val := v } 0 tr <;> rw [hk] at H <;> simp only [cond_true, cond_false] at H
        · cases H
        have ih := drwS_ok (E := E) rest _ _ _ _ e t' h' n' H (putT sa o.dst v) Q (A.put _ _) hQ
        split
        · rename_i f args ts ho; exact absurd ho (hno f args ts)
        · rw [hsa]
          simp only
          exact ⟨v, by rw [A.ev]; exact semX_ok hx, hk, ih⟩
    · rw [if_neg (by simp)]
      exact drwS_ok rest _ _ _ _ e t' h' n' H _ Q (A.put _ _) hQ
theorem drwS_normal {ops : Array Oper} : ∀ {l : List Oper} {tr : List Rec} {t : TB SV} {h : TB EO} {n : Nat} {e : Exit} {r : TB SV × TB EO × Nat}, drwS P ops l tr t h n = .ok (e, r) → e = .normal
  | [], _, _, _, _, _, _, H => by cases H; rfl
  | o :: rest, tr, t, h, n, e, r, H => by
    unfold drwS at H
    split at H <;> try cases H
    split at H
    · split at H <;> try cases H
      cases hc : (footS (evF (lookT t)) o.op).all (isObj h) <;> rw [hc] at H <;> simp only [cond_true, cond_false] at H
      · cases H
      split at H
      · rename_i out hs
        cases hk : (keysW out.upd.toList ++ footS (evF (lookT t)) o.op).all (fun k => Nat.blt k n) && indep ops tr.length { dst := o.dst, val := out.val, foot := keysW out.upd.toList ++ footS (evF (lookT t)) o.op, wr := out.upd.toList, new := (out.new.map fun x => (n, some x)).toList } 0 tr <;> rw [hk] at H <;> simp only [cond_true, cond_false] at H
        · cases H
        · exact drwS_normal H
      · split at H <;> try cases H
        rename_i v hx
        cases hk : indep ops tr.length { dst := o.dst, val := v } 0 tr <;> rw [hk] at H <;> simp only [cond_true, cond_false] at H
        · cases H
        · exact drwS_normal H
    · exact drwS_normal H
theorem drawE_ok (hO : OrcOk P I orc) {E : Env} {N : Nat} (hm : P.follows .mixedOrders = true) {rc ry : Nat → List SV → TB EO → Nat → ER VO} (hc : ∀ g us h n v h' n', rc g us h n = .ok (v, h', n') → ∀ K : SV → Hp → Nat → Prop, K v (toHp Rs h') n' → SCallE E P g us (toHp Rs h) n K)
    (hy : ∀ g us h n v h' n', ry g us h n = .ok (v, h', n') → ∀ K : SV → Hp → Nat → Prop, K v (toHp Rs h') n' → YCallO E P g us (toHp Rs h) n K) {ops : Array Oper} {t : TB SV} {h : TB EO} {n : Nat} {e : Exit} {t' : TB SV} {h' : TB EO} {n' : Nat}
    (H : drawE P orc rc ry ops t h n = .ok (e, t', h', n')) {id : Nat} {sa : SA} {Q : Post} (A : Ag sa t) (hQ : ∀ sa', Ag sa' t' → Q e sa' (toHp Rs h') n') : SWE E P N (.region id ops true) Q sa (toHp Rs h) n := by
  unfold drawE at H
  cases hst : staticB ops <;> rw [hst] at H <;> simp only [cond_true, cond_false] at H
  · cases H
  split at H
  rotate_left
  · cases hnc : noCall ops <;> rw [hnc] at H <;> simp only [cond_true, cond_false] at H
    · cases H
    have := drwS_normal H
    subst this
    exact SWE_draw hm hst (drwS_ok _ _ _ _ _ _ _ _ _ H sa _ A fun sa' _ A' => hQ sa' A')
  rename_i r0 hds
  cases H
  have H := hds
  unfold dseqE at H
  split at H <;> try cases H
  rename_i rs te hl he ne hd1
  cases hrow : rowB ops rs <;> rw [hrow] at H <;> simp only [cond_true, cond_false] at H
  · cases H
  cases hrd : readB P orc ops rs hl <;> rw [hrd] at H <;> simp only [cond_true, cond_false] at H
  · cases H
  cases H
  have D := drw1_ok _ _ _ _ _ _ _ _ _ _ hd1
  have hlen : rs.length = ops.size := by rw [D.len]; simp
  obtain ⟨hs, hhs⟩ : ∃ hs : Nat → Hp, hs = fun k => match hl[k]? with | some p => toHp Rs p.1 | none => fun _ => none := ⟨_, rfl⟩
  obtain ⟨ns, hns⟩ : ∃ ns : Nat → Nat, ns = fun k => match hl[k]? with | some p => p.2 | none => 0 := ⟨_, rfl⟩
  have at1 : ∀ {k : Nat} {x : TB EO} {y : Nat}, hl[k]? = some (x, y) → hs k = toHp Rs x ∧ ns k = y := fun {k x y} g => by rw [hhs, hns]; simp [g]
  have hopl : ∀ i : Nat, ops.toList[i]? = ops[i]? := fun i => by simp
  have hlast := D.last
  rw [show ops.toList.length = ops.size by simp] at hlast
  intro hdok
  have G : DSeq E P N ops (look sa) (recsOf ops.toList rs) (effB rs) hs ns := by
    refine ⟨by simp [recsOf, hlen], hst, fun i o ho d hd => ?_, fun i j hji hi hej hei hrk => ?_, fun i o r ho hr => ?_⟩
    · simp only [Code.dok, List.all_eq_true] at hdok
      have := hdok o (List.mem_of_getElem? (by rw [hopl]; exact ho))
      rw [hd] at this; simpa using this
    · have := List.all_eq_true.1 hrow i (List.mem_range.2 (by omega))
      rw [hei, Bool.not_true, Bool.false_or] at this
      have := List.all_eq_true.1 this j (List.mem_range.2 hji)
      rw [hej, hrk, Nat.beq_refl] at this; simpa using this
    · obtain ⟨dr, hdr⟩ : ∃ dr, rs[i]? = some dr := ⟨rs[i]'(by rw [hlen]; exact (Array.getElem?_eq_some_iff.1 ho).1), by simp⟩
      have hre : r = { dst := o.dst, val := dr.v } := by
        simp only [recsOf, List.getElem?_zipWith, hopl, ho, hdr] at hr
        exact (Option.some.inj hr).symm
      subst hre
      obtain ⟨a1, a2, a3, a4⟩ := D.at_ i o dr (by rw [hopl]; exact ho) hdr
      have heff : effB rs i = dr.e := by unfold effB; rw [hdr]
      rw [← A.look] at a1
      refine ⟨rfl, ?_⟩
      rw [← a1]
      cases hg : dr.g with
      | false => exact .inl ⟨by rw [a2, hg], (a3 hg).1, by rw [heff]; exact (a3 hg).2⟩
      | true =>
        refine .inr ⟨by rw [a2, hg], fun k hk sx hx => ?_⟩
        cases he : dr.e with
        | true =>
          obtain ⟨_, x1, y1, x2, y2, b1, b2, b3⟩ := a4 he
          have hkr := hk.1 (by rw [heff, he])
          rw [← hkr] at b1 b2
          obtain ⟨c1, c2⟩ := at1 b1
          obtain ⟨c3, c4⟩ := at1 b2
          rw [heff, he, if_pos rfl, c1, c2, c3, c4]
          exact stepV_ok hO hc hy b3 hx ⟨rfl, rfl, rfl⟩
        | false =>
          rw [heff, he, if_neg (by simp)]
          have hkl : k < hl.length := Nat.lt_of_le_of_lt hk.2.1 (List.getElem?_eq_some_iff.1 hlast).1
          have hr1 := List.all_eq_true.1 hrd i (List.mem_range.2 (List.getElem?_eq_some_iff.1 hdr).1)
          rw [hdr, ho] at hr1
          simp only [he, hg, Bool.not_true, Bool.false_or] at hr1
          have hr2 := List.all_eq_true.1 hr1 k (List.mem_range.2 hkl)
          have hmay : mayB ops rs i k = true := by
            refine List.all_eq_true.2 fun j hj => ?_
            have hj' : j < ops.size := by rw [← hlen]; exact List.mem_range.1 hj
            cases hej : effB rs j with
            | false => rfl
            | true =>
              rw [Bool.not_true, Bool.false_or]
              cases hb : Nat.ble k (rnk (effB rs) j) with
              | true => rw [cond_true, hk.2.2.1 j hj' hej (Nat.le_of_ble_eq_true hb)]; rfl
              | false =>
                have : rnk (effB rs) j < k := by
                  refine Nat.lt_of_not_le fun g => ?_
                  rw [Nat.ble_eq_true_of_le g] at hb; cases hb
                rw [cond_false, hk.2.2.2 j hj' hej this]; rfl
          rw [hmay, Bool.not_true, Bool.false_or] at hr2
          split at hr2 <;> try cases hr2
          rename_i x y hxy
          split at hr2 <;> try cases hr2
          rename_i v hv
          obtain ⟨c1, c2⟩ := at1 hxy
          rw [c1, c2]
          refine readV_ok hO hv hx ⟨eqS_ok hr2, rfl, rfl⟩
  obtain ⟨sb, hsb⟩ := D.sb sa A
  obtain ⟨f1, f2⟩ := at1 D.first
  obtain ⟨f3, f4⟩ := at1 hlast
  have key := SWE_dseq (id := id) (Q := Q) (sa := sa) (sb := sb) hm G (by rw [hsb.look, D.fin, A.look]; simp) (by rw [f3, f4]; exact hQ sb hsb)
  rw [f1, f2] at key
  exact key hdok
theorem evl_succ (k : Nat) : evl P orc (k + 1) = evl1 P orc (evl P orc k) := rfl
theorem run_step (hO : OrcOk P I orc) (hm : P.follows .mixedOrders = true) {k : Nat} (ihs : ∀ j, j ≤ k → Snd P I (evl P orc j)) : Snd P I (evl P orc (k + 1)) := by
  intro m c t h n e t' h' n' H E N Rs sa Q hI hR hE A hQ
  have ih := ihs k (Nat.le_refl k)
  have H0 := H
  rw [evl_succ] at H
  unfold evl1 at H
  split at H
  · cases H; exact SWE_skip (hQ _ A)
  · rename_i a b
    unfold seqE at H
    split at H <;> try cases H
    rename_i e1 t1 h1 n1 hr1
    refine SWE_seq (ih _ _ _ _ _ _ _ _ _ hr1 E N Rs sa _ hI hR hE A fun sa' A' => ?_)
    split at H
    · exact ih _ _ _ _ _ _ _ _ _ H E N Rs sa' Q hI hR hE A' hQ
    · rename_i hne
      cases H
      cases e with
      | normal => exact absurd rfl hne
      | _ => exact hQ _ A'
  · rename_i c a b
    unfold condE at H
    split at H <;> try cases H
    rename_i b' hb
    rw [← A.ev] at hb
    refine SWE_cond hb ?_
    split at H
    · exact ih _ _ _ _ _ _ _ _ _ H E N Rs sa Q hI hR hE A hQ
    · exact ih _ _ _ _ _ _ _ _ _ H E N Rs sa Q hI hR hE A hQ
  · rename_i id b
    unfold blockE at H
    split at H
    · rename_i e1 t1 h1 n1 hr1
      cases H
      refine SWE_block (ih _ _ _ _ _ _ _ _ _ hr1 E N Rs sa _ hI hR hE A fun sa' A' => ?_)
      have := hQ _ A'
      cases e1 with
      | exit i =>
        simp only [blkE] at this
        simp only [blockQ]
        cases hc : Nat.beq i id <;> rw [hc] at this <;> simp only [cond_true, cond_false] at this
        · rw [if_neg (Nat.ne_of_beq_eq_false hc)]; exact this
        · rw [if_pos (Nat.eq_of_beq_eq_true hc)]; exact this
      | _ => exact this
    · cases H
  · cases H; exact SWE_exit (hQ _ A)
  · cases H; exact SWE_ret (hQ _ A)
  · rename_i b
    clear H
    refine SWE_loop (k + 1) (fun j sa h n => j ≤ k + 1 ∧ ∃ t h0, Ag sa t ∧ h = toHp Rs h0 ∧ evl P orc j m (.loop b) t h0 n = .ok (e, t', h', n')) ⟨Nat.le_refl _, t, h, A, rfl, H0⟩ ?_
    rintro j sa h n ⟨hj, t, h0, A, rfl, H⟩
    cases j with
    | zero => cases H
    | succ j =>
      rw [evl_succ] at H
      unfold evl1 at H
      simp only at H
      unfold loopE at H
      split at H <;> try cases H
      rename_i e1 t1 h1 n1 hr1
      refine ihs j (by omega) _ _ _ _ _ _ _ _ _ hr1 E N Rs sa _ hI hR hE A fun sa' A' => ?_
      split at H
      · exact ⟨j, Nat.lt_succ_self j, by omega, t1, h1, A', rfl, H⟩
      · rename_i hne
        cases H
        cases e with
        | normal => exact absurd rfl hne
        | _ => exact hQ _ A'
  · rename_i i ops d
    unfold regE at H
    split at H
    · have hn := opsE_normal H
      subst hn
      exact SWE_region (opsE_ok hO (fun g us h n v h' n' g1 K g2 => callE_ok hO ih g1 hI hR g2) (fun g us h n v h' n' g1 K g2 => yieldE_ok ih g1 hI hR g2) _ _ _ _ _ _ _ _ _ H sa _ A fun sa' _ A' => hQ sa' A')
    · exact drawE_ok hO hm (fun g us h n v h' n' g1 K g2 => callE_ok hO ih g1 hI hR g2) (fun g us h n v h' n' g1 K g2 => yieldE_ok ih g1 hI hR g2) H A hQ
  · exact rangeE_ok hO ih H hI hR hE A hQ
  · cases H
theorem run_all (hO : OrcOk P I orc) (hm : P.follows .mixedOrders = true) : ∀ k j, j ≤ k → Snd P I (evl P orc j)
  | 0, j, hj => by
    have : j = 0 := by omega
    subst this
    intro m c t h n e t' h' n' H; cases H
  | k + 1, j, hj => by
    rcases Nat.lt_or_ge k j with g | g
    · have : j = k + 1 := by omega
      subst this
      exact run_step hO hm (run_all hO hm k)
    · exact run_all hO hm k j g
theorem run_ok (hO : OrcOk P I orc) (hm : P.follows .mixedOrders = true) (k : Nat) : Snd P I (evl P orc k) := run_all hO hm k k (Nat.le_refl k)
def resB : ER VO → Option Bool
  | .ok (.bool b, _, _) => some b
  | _ => none
end
end Go.Proofs.YthinbkgpjmjfeaaGreatDoor.Sh
namespace Go.Proofs.YthinbkgpjmjfeaaGreatDoor.Sh
set_option maxRecDepth 10000
theorem checkKey142 (b : Bool) (x y : Int) (w : World) : (Instr.checkKey b 10000 142 (.agg #[.int .i64 x, .int .i64 y])).run Tryz.prog w = .ok () w := by
  have u89 : Tryz.prog.underlying 142 = _ := Tryz.underlying142
  have u3 : Tryz.prog.underlying 3 = _ := Tryz.underlying3
  have g3 : ∀ n z, (Instr.checkKey b (n + 1) 3 (.int .i64 z)).run Tryz.prog w = .ok () w := fun n z => by simp [Instr.checkKey, run_underlying' u3]
  have ha : tagg Tryz.prog 3 = some false := by simp [go_sem]
  have p : ∀ (cs : Array Value) off v, cs[off]? = some v → (part 3 cs off).run Tryz.prog w = .ok v w := fun cs off v h => by simp [part, run_isAgg' ha, h]
  have gen : ∀ n, (Instr.checkKey b (n + 2) 142 (.agg #[.int .i64 x, .int .i64 y])).run Tryz.prog w = .ok () w := fun n => by
    rw [Instr.checkKey]
    simp only [Sem.run_bind, run_underlying' u89, Result.andThen_ok]
    rw [← Array.forIn_toList]
    simp [List.forIn_cons, p #[.int .i64 x, .int .i64 y] 0 (.int .i64 x) rfl, p #[.int .i64 x, .int .i64 y] 1 (.int .i64 y) rfl, g3]
  exact gen 9998
section
variable {E : Env} {evs : Operand → SV} {o : Oper} {h : Hp} {n : Nat} {K : SV → Hp → Nat → Prop}
theorem run_findKeyB {kt : TypeId} {fs : Array Field} {v : Value} {ents : List MapEntry} {r : Option (Nat × Value)} {w : World} (hu : Tryz.prog.underlying kt = some (.struct fs)) (hf : (Instr.findAsking kt v ents 0).run Tryz.prog w = .ok r w) : (Instr.findKey kt v ents).run Tryz.prog w = .ok r w := by
  cases ents with
  | nil =>
    simp [Instr.findAsking] at hf
    subst hf
    simp [Instr.findKey, run_underlying' hu, Instr.findNow]
  | cons e es =>
    have : Instr.findNow (.struct fs) v (e :: es) 0 = none := by simp [Instr.findNow, Instr.sameNow]
    simp [Instr.findKey, run_underlying' hu, this, hf]
theorem key142 : KeyS Tryz.prog 142 := ⟨by kernel_rfl, by kernel_rfl⟩
theorem agg2B {c : Cx} {a b : Int} {v : Value} (h : V c (.agg [.int .i64 a, .int .i64 b]) v) : v = .agg #[.int .i64 a, .int .i64 b] := by
  simp only [V, VL] at h
  obtain ⟨vs, rfl, ⟨_, _, rfl, rfl, _, _, rfl, rfl, rfl⟩, _⟩ := h
  rfl
theorem sem_lookup138 {m x : Operand} {q : Nat} {a b : Int} {es : List (SV × SV)} {r : Option (Nat × SV)} (ho : o.op = .lookup 138 m x false) (hm : evs m = .map q) (hq : h q = some (.map es)) (hx : evs x = .agg [.int .i64 a, .int .i64 b])
    {v : SV} (hv0 : (match r with | some p => p.2 | none => tzero Tryz.prog 3) = v) (hf : findA Tryz.prog 142 [.int .i64 a, .int .i64 b] es 0 = some r) (hk : K v h n) : SemOp E Tryz.prog evs o h n K := by
  subst hv0
  refine ⟨by rw [ho]; simp, fun c ev _ _ R F hv => ?_⟩
  have hvm := hv m
  have hvx := hv x
  rw [hm, V] at hvm
  obtain ⟨bq, hρ, hev⟩ := hvm
  rw [hx] at hvx
  have hkey := agg2B hvx
  obtain ⟨b', ents, clock, g1, g2, g3, _⟩ := R.obj _ _ hq
  rw [hρ] at g1; cases g1
  have hgo : (getObj bq).run Tryz.prog c.w = .ok (.map ents clock) c.w := by simp [getObj, Sem.run, g2]
  have u85 : Tryz.prog.underlying 138 = some (.map 142 3) := Tryz.underlying138
  have hck : ∀ em, (Instr.checkKey em 10000 142 (ev x)).run Tryz.prog c.w = .ok () c.w := fun em => by rw [hkey]; exact checkKey142 em a b c.w
  have hst : (tzero Tryz.prog 3).storable = true := by simp [go_sem]
  obtain ⟨i, z, hi, hzz, hze⟩ := tzero_storable hst
  have hvz := V_ofValue c z
  rw [← hze] at hvz
  rcases findA_rel key142 hvx c.w es ents.toList 0 r g3 hf with ⟨rfl, hg⟩ | ⟨j, x2, y2, e2, ds, rfl, hg, hxy, _, _⟩
  · have hfk := run_findKeyB Tryz.underlying142 hg
    refine ⟨z, tzero Tryz.prog 3, h, n, c, ?_, hvz, R, F, Adv.refl n c, hk⟩
    simp [execOp, ho, Instr.lookup, run_underlying' u85, hev, hgo, hck, hfk, run_zeroValue' hi hzz]
  · have hfk := run_findKeyB Tryz.underlying142 hg
    refine ⟨y2, x2, h, n, c, ?_, hxy, R, F, Adv.refl n c, hk⟩
    simp [execOp, ho, Instr.lookup, run_underlying' u85, hev, hgo, hck, hfk]
end
open Proofs
set_option maxRecDepth 100000 in
set_option maxHeartbeats 2000000 in
theorem cc_used0 (b : Nat) (w : World) (h0 : w.cell? ⟨b, 0, none⟩ = some (.pointer (some ⟨b, 0, none⟩))) :
    Calls Tryz.prog 123 #[.pointer (some ⟨b, 0, none⟩)] w fun e w' => e = .returned (.tuple #[]) ∧ w' = w := by
  obtain ⟨j, hj, _⟩ := Option.map_eq_some_iff.1 (show (Tryz.prog.info? 121).map (·.size) = some 2 by kernel_rfl)
  go_enter Tryz.func123, Tryz.ntmps123
  go_wp2
  rw [Lib.run_neq_ptr_same w _ Tryz.underlying118 hj]
  go_wp2
  go_end0
  exact ⟨rfl, rfl⟩
theorem liesC (m : Nat) : liesAt Tryz.prog Tryz.prog.depth 121 (m + 1) 0 121 1 = true := by kernel_rfl
theorem cells121 : Tryz.prog.cellsOf 121 = 2 := by kernel_rfl
set_option maxRecDepth 100000 in
set_option maxHeartbeats 2000000 in
theorem cc_fresh0 (b k : Nat) (w : World) (h0 : w.cell? ⟨b, 0, none⟩ = some (.pointer none)) (hsh : w.shape? b = some (121, k)) (hk : 2 ≤ k) (hfz : w.frozen? ⟨b, 0, none⟩ = false) :
    Calls Tryz.prog 123 #[.pointer (some ⟨b, 0, none⟩)] w fun e w' => e = .returned (.tuple #[]) ∧ w' = w.setCell ⟨b, 0, none⟩ (.pointer (some ⟨b, 0, none⟩)) := by
  obtain ⟨j, hj, hjs⟩ := Option.map_eq_some_iff.1 (show (Tryz.prog.info? 121).map (·.size) = some 2 by kernel_rfl)
  obtain ⟨m, hm⟩ : ∃ m, k / Tryz.prog.cellsOf 121 = m + 1 := ⟨k / 2 - 1, by rw [cells121]; omega⟩
  have hlies := liesC m
  rw [← hm] at hlies
  go_enter Tryz.func123, Tryz.ntmps123
  go_wp2
  rw [Lib.run_to_unsafe w ⟨b, 0, none⟩ Tryz.underlying118 Tryz.underlying256 hj (by rw [hjs]; decide) hsh (by simp; omega)]
  simp only [Result.andThen]
  rw [Oper.upon_value]
  go_wp2
  rw [run_callFunc_extern Tryz.func179 (by kernel_rfl) (by kernel_rfl) (by kernel_rfl) (e := Extern.AbiNoEscape.same) (by kernel_rfl)]
  rw [Lib.run_noEscape]
  simp only [Result.andThen]
  rw [Oper.upon_value]
  go_wp2
  rw [Lib.run_from_unsafe w ⟨b, 0, none⟩ Tryz.underlying256 Tryz.underlying118 hj hsh hlies]
  simp only [Result.andThen]
  rw [Oper.upon_value]
  go_wp2
  go_end0
  exact ⟨rfl, rfl⟩
theorem d335b {H : Hp} {n q : Nat} {p buf : SV} (hH : H q = some (.cells [p, buf] (some 121))) (hp : p = .nilp ∨ p = .ptr q 0) :
    SCall Tryz.prog 123 [.ptr q 0] H n (fun v h' n' => v = .tup [] ∧ h' = hset H q (some (.cells [.ptr q 0, buf] (some 121))) ∧ n' = n) := by
  refine ⟨ok335, fun c vs _ R F A => ?_⟩
  obtain ⟨u, rfl, hv⟩ := A.single
  rw [V] at hv
  obtain ⟨b0, st, hρ, rfl⟩ := hv
  obtain ⟨b', st', arr, e, us, g1, g2, g3, g4, g5, g6⟩ := R.obj q _ hH
  rw [hρ] at g1; cases g1
  obtain ⟨hst, rfl⟩ := g6 121 rfl
  subst hst
  obtain ⟨v2, hv2, hvp⟩ := g4.get (i := 0) (a := p) rfl
  have h2 := g3 0 _ hv2
  have hcell : c.w.cell? ⟨b0, 0, none⟩ = some v2 := by simp only [World.cell?, g2]; simpa using h2
  have hlen := g4.length
  simp only [List.length_cons, List.length_nil] at hlen
  have hsz : 2 ≤ arr.size := by
    have hlast : us[1]? = some us[1] := List.getElem?_eq_getElem (by omega)
    have := (Array.getElem?_eq_some_iff.1 (g3 _ _ hlast)).1
    omega
  have hself : V c (.ptr q 0) (.pointer (some ⟨b0, 0, none⟩)) := by rw [V]; exact ⟨b0, 0, hρ, by simp⟩
  simp only [Nat.zero_add]
  rcases hp with rfl | rfl
  · rw [V] at hvp
    subst hvp
    obtain ⟨w', hrun, R', X⟩ := obj_write (P := Tryz.prog) (off := 0) (xs := [.ptr q 0]) (us := [.pointer (some ⟨b0, 0, none⟩)]) R hH hρ (by simp) (by simp) ⟨hself, trivial⟩ (by simp [Value.oneCell'])
    have hrun2 := run_storeCells_cells (P := Tryz.prog) b0 0 [.pointer (some ⟨b0, 0, none⟩)] 0 c.w (by intro j hj; simp at hj; subst hj; simp [hcell]) (by intro j hj; simp at hj; subst hj; simp [World.frozen?, g2]) (by simp [Value.oneCell'])
    simp only [Nat.add_zero] at hrun hrun2
    rw [hrun] at hrun2
    simp only [Result.ok.injEq, true_and] at hrun2
    refine (cc_fresh0 b0 arr.size c.w hcell (by simp [World.shape?, g2]) hsz (by simp [World.frozen?, g2])).mono ?_
    rintro e w2 ⟨rfl, rfl⟩
    have hw : w' = c.w.setCell ⟨b0, 0, none⟩ (.pointer (some ⟨b0, 0, none⟩)) := by rw [hrun2]; rfl
    subst hw
    exact ⟨.tuple #[], .tup [], _, n, { c with w := c.w.setCell ⟨b0, 0, none⟩ (.pointer (some ⟨b0, 0, none⟩)) }, rfl, ⟨rfl, rfl, rfl⟩, rfl, by simp [V, VL], by simpa using R', F, ⟨X, Nat.le_refl _, fun _ _ => rfl⟩⟩
  · rw [V] at hvp
    obtain ⟨b1, st1, hρ1, rfl⟩ := hvp
    rw [hρ] at hρ1; cases hρ1
    have hself2 : hset H q (some (.cells [.ptr q 0, buf] (some 121))) = H := by
      funext k
      by_cases hk : k = q
      · subst hk; rw [hset_at', hH]
      · simp [hset, hk]
    refine (cc_used0 b0 c.w (by simpa using hcell)).mono ?_
    rintro e w2 ⟨rfl, rfl⟩
    exact ⟨.tuple #[], .tup [], _, n, c, rfl, ⟨rfl, hself2.symm, rfl⟩, rfl, by simp [V, VL], R, F, Adv.refl n c⟩
end Go.Proofs.YthinbkgpjmjfeaaGreatDoor.Sh
