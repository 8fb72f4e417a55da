/- A part of the proof (part 11 of 14). -/
import Derived.Test.YtgakninlhfkkmaaGreatM10
import Derived.Lib.ConvBytes
import Derived.Lib.UnsafeStr
import Derived.Lib.Builder
import Derived.Laws.Externs
import Derived.BigFrame
import Derived.WalkKit
namespace Go.Proofs.YtgakninlhfkkmaaGreat.Sh
abbrev ZY := @TC.use
open Proofs
set_option maxRecDepth 10000
def Lo : Nat → List AE → Prop
 | 0, _ => False
 | N + 1, l => l.length ≤ 150 ∧ ∀ x ∈ l, (x.text.size ≤ 1000 ∧ x.rows.length ≤ 20) ∧ Lo N x.flow ∧ ∀ r ∈ x.rows, r.cells.length ≤ 20 ∧ ∀ c ∈ r.cells, Lo N c.flow
def UV (N : Nat) (x : AE) : Prop := (x.text.size ≤ 1000 ∧ x.rows.length ≤ 20) ∧ Lo N x.flow ∧ ∀ r ∈ x.rows, r.cells.length ≤ 20 ∧ ∀ c ∈ r.cells, Lo N c.flow
def UP (N : Nat) (l : List AE) (c0 : Int) (p : Nat) (H : Hp) (n : Nat) : SV → Hp → Nat → Prop := fun v h' n' => ∃ b c, v = .bool b ∧ h' = hset H p (some (.cells [AA c])) ∧ n' = n ∧ (b = true → 0 ≤ c0 ∧ c0 ≤ 150 → 0 ≤ c ∧ c ≤ c0 ∧ Lo N l)
def Sq (N : Nat) (l : List AE) : Prop := ∀ (dp : Int) (p : Nat) (c0 : Int) (H : Hp) (n : Nat), H p = some (.cells [AA c0]) → BN Tryz.prog 33 [AG l, AA dp, .ptr p 0] H n (UP N l c0 p H n)
theorem Ld {α : Type} {p : α → Prop} {l : List α} {i : Nat} (hi : i < l.length) {x : α} (hx : l[i] = x) (h : ∀ y ∈ l.take i, p y) (h2 : p x) : ∀ y ∈ l.take (i + 1), p y := fun y hy => by
 rw [JW hi, hx] at hy
 rcases Kz.1 hy with hy | hy
 · exact h y hy
 · rw [Yb.1 hy]; exact h2
set_option maxHeartbeats 4000000 in
theorem d33 (N : Nat) (l : List AE) (hl : l.length ≤ 1048576) (hr : ∀ x ∈ l, x.head.props.length ≤ 1048576 ∧ Sq N x.flow ∧ x.rows.length ≤ 1048576 ∧ ∀ r ∈ x.rows, r.cells.length ≤ 1048576 ∧ ∀ c ∈ r.cells, Sq N c.flow) : Sq (N + 1) l := fun dp p c0 H n hp => by
 refine Da Tryz.func33 rfl fun ho => ?_
 have hpn : p < n := (ho p _ hp).1
 obtain ⟨B, hB⟩ : ∃ B : Int → Hp, ∀ c, B c = hset H p (some (.cells [AA c])) := ⟨_, fun _ => rfl⟩
 have hBp : ∀ c, B c p = some (.cells [AA c]) := fun c => by rw [hB, AC]
 have hBs : ∀ c c', hset (B c) p (some (.cells [AA c'])) = B c' := fun c c' => by rw [hB, hB, Ai]
 have hB0 : B c0 = H := by rw [hB]; funext j; simp only [hset]; split; · subst_vars; exact hp.symm
                           · rfl
 have A3 : ∀ (b : Bool) (c : Int) (m : Nat), (b = true → 0 ≤ c0 ∧ c0 ≤ 150 → 0 ≤ c ∧ c ≤ c0 ∧ Lo (N + 1) l) → CE n (B c) m (.bool b) (UP (N + 1) l c0 p H n) := fun b c m hb =>
  .inr ⟨0, .bool b, B c, Jo, by simp [closed], fun j y e => ⟨e, by
   rw [hB] at e
   by_cases h : j = p
   · subst h; rw [AC] at e; cases e; exact ⟨hpn, by simp [BW, closed, closedL]⟩
   · rw [AD _ _ h] at e; exact ho j y e⟩, b, c, rfl, hB c, rfl, hb⟩
 have ret : ∀ (c : Int) (m : Nat), CE n (B c) m (.bool false) (UP (N + 1) l c0 p H n) := fun c m => A3 false c m (by simp)
 refine AZ 0 [(0, AG l), (1, AA dp), (2, .ptr p 0)] (B c0) n ?_ (fun m hm => ?_)
 · rw [hB0]; simp [go_sem, Jo]
 refine AV 0 (α := Int) (fun _ => []) (fun c => B c) (fun c m => n ≤ m ∧ (0 ≤ c0 ∧ c0 ≤ 150 → 0 ≤ c ∧ c + l.length ≤ c0 ∧ ∀ x ∈ l, UV N x)) ?_ (fun c m hm => ?_)
 · refine AZ 0 [(0, AG l), (1, AA dp), (2, .ptr p 0), (7, AA 0)] (B c0) n ?_ (fun m hm => ?_)
   · simp [go_sem, Jo, hm]
   refine AX (BX 0 (α := Nat × Int) (fun q => [(0, AG l), (1, AA dp), (2, .ptr p 0), (7, AA q.1)]) (fun q => B q.2) (fun q m => q.1 ≤ l.length ∧ n ≤ m ∧ (0 ≤ c0 ∧ c0 ≤ 150 → 0 ≤ q.2 ∧ q.2 + q.1 ≤ c0 ∧ ∀ x ∈ l.take q.1, UV N x)) (fun q => l.length - q.1) (0, c0) ⟨K2 _, hm, fun g => ⟨g.1, by simp, by simp⟩⟩ ?_ AB ?_)
   · simp [go_sem, Am, Jo]
   rintro ⟨i, c⟩ m ⟨hi, hm, hG⟩
   dsimp only at hi hG ⊢
   by_cases hlt : i < l.length
   · obtain ⟨x, hx⟩ : ∃ x, l[i] = x := ⟨_, rfl⟩
     have hxm : x ∈ l := by rw [← hx]; exact Kn hlt
     obtain ⟨x1, x2, x3, x4⟩ := hr x hxm
     have w1 := wS i (by omega)
     refine AZ 0 [(0, AG l), (1, AA dp), (2, .ptr p 0), (7, AA i)] (B c) n ?_ (fun m hm => ?_)
     · simp [go_sem, Jo, hm, hlt]
     refine AV 0 (α := Int) (fun _ => [(0, AG l), (1, AA dp), (2, .ptr p 0), (7, AA i)]) (fun c => B c) (fun c m => n ≤ m ∧ (0 ≤ c0 ∧ c0 ≤ 150 → 0 ≤ c ∧ c + (i + 1) ≤ c0 ∧ UV N x)) ?_ (fun c m hm => ?_)
     · refine AX ?_
       refine BO 0 (α := Int) (fun _ => [(0, AG l), (1, AA dp), (2, .ptr p 0), (7, AA i)]) (fun c => B c) (fun c' m => n ≤ m ∧ (0 ≤ c0 ∧ c0 ≤ 150 → c' = c - 1)) ?_ (fun c' m hm => ?_)
       · simp [go_sem, Jo, hm, hBp, hBs]
         exact ⟨_, fun g1 g2 => by obtain ⟨q1, q2, _⟩ := hG ⟨g1, g2⟩; rw [DJ] <;> omega, AB⟩
       obtain ⟨hm, hc'⟩ := hm
       refine AV 0 (α := Int) (fun _ => [(0, AG l), (1, AA dp), (2, .ptr p 0), (7, AA i)]) (fun c => B c) (fun c2 m => n ≤ m ∧ (0 ≤ c0 ∧ c0 ≤ 150 → 0 ≤ c2 ∧ c2 ≤ c' ∧ (x.text.size ≤ 1000 ∧ x.rows.length ≤ 20) ∧ Lo N x.flow)) ?_ (fun c m hm => ?_)
       · refine BO 0 (α := Bx × Int) (fun q => [(0, AG l), (1, AA dp), (2, .ptr p 0), (7, AA i), (68, .bool q.1.b)]) (fun q => B q.2) (fun q m => n ≤ m ∧ (q.1.b = false → 0 ≤ c0 ∧ c0 ≤ 150 → 0 ≤ q.2 ∧ q.2 ≤ c' ∧ (x.text.size ≤ 1000 ∧ x.rows.length ≤ 20) ∧ Lo N x.flow)) ?_ (fun q m hm => ?_)
         · generalize c' = c at hc' ⊢
           by_cases a1 : c < 0
           · simp [go_sem, Jo, hm, hBp, a1]
             exact ⟨⟨true⟩, c, by simp, rfl, AB⟩
           by_cases a2 : dp = 0
           · simp [go_sem, Jo, hm, hBp, a1, a2]
             exact ⟨⟨true⟩, c, by simp, rfl, AB⟩
           by_cases a3 : (1000 : Int) < x.text.size
           · simp [go_sem, Jo, hm, hBp, a1, a2, hlt, hx, KW, a3]
             exact ⟨⟨true⟩, c, by simp, rfl, AB⟩
           by_cases a4 : (60 : Int) < x.head.props.length
           · simp [go_sem, Jo, hm, hBp, a1, a2, hlt, hx, KW, a3, a4]
             exact ⟨⟨true⟩, c, by simp, rfl, AB⟩
           by_cases a5 : (20 : Int) < x.rows.length
           · simp [go_sem, Jo, hm, hBp, a1, a2, hlt, hx, KW, a3, a4, a5]
             exact ⟨⟨true⟩, c, by simp, rfl, AB⟩
           simp [go_sem, hBp, a1, a2, hlt, hx, KW, a3, a4, a5]
           refine Y9 (x2 _ p c (B c) m (hBp c)) ?_
           rintro v H' n' ⟨b, c2, rfl, rfl, rfl, hb⟩
           rw [hBs]
           simp [go_sem, Jo, hm]
           exact ⟨⟨!b⟩, c2, fun g ga gb => by
            have g1 : 0 ≤ c0 ∧ c0 ≤ 150 := ⟨ga, gb⟩
            obtain ⟨q1, q2, q3⟩ := hG g1
            have e1 := hc' g1
            obtain ⟨r1, r2, r3⟩ := hb (by simpa using g) ⟨by omega, by omega⟩
            exact ⟨r1, r2, ⟨by omega, by omega⟩, r3⟩, rfl, AB⟩
         obtain ⟨⟨b⟩, c2⟩ := q
         obtain ⟨hm, hb⟩ := hm
         dsimp only at hb ⊢
         cases b with
         | true => exact AK (by simp [go_sem]; exact ret c2 _)
         | false => exact AK (by simp [go_sem, Jo, hm]; exact ⟨_, fun g1 g2 => hb rfl ⟨g1, g2⟩, AB⟩)
       obtain ⟨hm, hx2⟩ := hm
       have hG2 : 0 ≤ c0 ∧ c0 ≤ 150 → 0 ≤ c ∧ c + (i + 1) ≤ c0 ∧ (x.text.size ≤ 1000 ∧ x.rows.length ≤ 20) ∧ Lo N x.flow := fun g => by
        obtain ⟨q1, q2, _⟩ := hG g
        obtain ⟨r1, r2, r3, r4⟩ := hx2 g
        have := hc' g
        exact ⟨r1, by omega, r3, r4⟩
       clear hG hx2 hc'
       refine AZ 0 [(0, AG l), (1, AA dp), (2, .ptr p 0), (7, AA i), (8, AA 0)] (B c) n ?_ (fun m hm => ?_)
       · simp [go_sem, Jo, hm]
       refine AX (BX 0 (α := Nat × Int) (fun q => [(0, AG l), (1, AA dp), (2, .ptr p 0), (7, AA i), (8, AA q.1)]) (fun q => B q.2) (fun q m => q.1 ≤ x.rows.length ∧ n ≤ m ∧ (0 ≤ c0 ∧ c0 ≤ 150 → 0 ≤ q.2 ∧ q.2 + (i + 1) ≤ c0 ∧ ∀ r ∈ x.rows.take q.1, r.cells.length ≤ 20 ∧ ∀ z ∈ r.cells, Lo N z.flow)) (fun q => x.rows.length - q.1) (0, c) ⟨K2 _, hm, fun g => ⟨(hG2 g).1, (hG2 g).2.1, by simp⟩⟩ ?_ AB ?_)
       · simp [go_sem, Am, Jo]
       have hx3 : 0 ≤ c0 ∧ c0 ≤ 150 → (x.text.size ≤ 1000 ∧ x.rows.length ≤ 20) ∧ Lo N x.flow := fun g => (hG2 g).2.2
       clear hG2
       rintro ⟨j, c⟩ m ⟨hj, hm, hG⟩
       dsimp only at hj hG ⊢
       by_cases hjt : j < x.rows.length
       · obtain ⟨y, hy⟩ : ∃ y, x.rows[j] = y := ⟨_, rfl⟩
         have hym : y ∈ x.rows := by rw [← hy]; exact Kn hjt
         obtain ⟨y1, y2⟩ := x4 y hym
         have w2 := wS j (by omega)
         refine AZ 0 [(0, AG l), (1, AA dp), (2, .ptr p 0), (7, AA i), (8, AA j)] (B c) n ?_ (fun m hm => ?_)
         · simp [go_sem, Jo, hm, hlt, hx, KW, hjt]
         refine AV 0 (α := Int) (fun _ => [(0, AG l), (1, AA dp), (2, .ptr p 0), (7, AA i), (8, AA j)]) (fun c => B c) (fun c m => n ≤ m ∧ (0 ≤ c0 ∧ c0 ≤ 150 → 0 ≤ c ∧ c + (i + 1) ≤ c0 ∧ y.cells.length ≤ 20 ∧ ∀ z ∈ y.cells, Lo N z.flow)) ?_ (fun c m hm => ?_)
         · refine AX ?_
           refine CD 0 [(0, AG l), (1, AA dp), (2, .ptr p 0), (7, AA i), (8, AA j)] (B c) (fun m => n ≤ m ∧ y.cells.length ≤ 20) (AK ?_) (fun m hm => ?_)
           · by_cases a : (20 : Int) < y.cells.length
             · simp [go_sem, hlt, hx, KW, hjt, hy, Yj, a]
               exact ret c _
             · simp [go_sem, hlt, hx, KW, hjt, hy, Yj, a, Jo, hm]
               omega
           obtain ⟨hm, hyc⟩ := hm
           refine AZ 0 [(0, AG l), (1, AA dp), (2, .ptr p 0), (7, AA i), (8, AA j), (9, AA 0)] (B c) n ?_ (fun m hm => ?_)
           · simp [go_sem, Jo, hm]
           refine AX (BX 0 (α := Nat × Int) (fun q => [(0, AG l), (1, AA dp), (2, .ptr p 0), (7, AA i), (8, AA j), (9, AA q.1)]) (fun q => B q.2) (fun q m => q.1 ≤ y.cells.length ∧ n ≤ m ∧ (0 ≤ c0 ∧ c0 ≤ 150 → 0 ≤ q.2 ∧ q.2 + (i + 1) ≤ c0 ∧ ∀ z ∈ y.cells.take q.1, Lo N z.flow)) (fun q => y.cells.length - q.1) (0, c) ⟨K2 _, hm, fun g => ⟨(hG g).1, (hG g).2.1, by simp⟩⟩ ?_ AB ?_)
           · simp [go_sem, Am, Jo]
           clear hG
           rintro ⟨k, c⟩ m ⟨hk, hm, hG⟩
           dsimp only at hk hG ⊢
           by_cases hkt : k < y.cells.length
           · obtain ⟨z, hz⟩ : ∃ z, y.cells[k] = z := ⟨_, rfl⟩
             have hzm : z ∈ y.cells := by rw [← hz]; exact Kn hkt
             have z1 := y2 z hzm
             have w3 := wS k (by omega)
             refine AZ 0 [(0, AG l), (1, AA dp), (2, .ptr p 0), (7, AA i), (8, AA j), (9, AA k)] (B c) n ?_ (fun m hm => ?_)
             · simp [go_sem, Jo, hm, hlt, hx, KW, hjt, hy, Yj, hkt]
             refine AV 0 (α := Int) (fun _ => [(0, AG l), (1, AA dp), (2, .ptr p 0), (7, AA i), (8, AA j), (9, AA k)]) (fun c => B c) (fun c m => n ≤ m ∧ (0 ≤ c0 ∧ c0 ≤ 150 → 0 ≤ c ∧ c + (i + 1) ≤ c0 ∧ Lo N z.flow)) ?_ (fun c m hm => ?_)
             · refine AX ?_
               refine BO 0 (α := Int) (fun _ => [(0, AG l), (1, AA dp), (2, .ptr p 0), (7, AA i), (8, AA j), (9, AA k)]) (fun c => B c) (fun c' m => n ≤ m ∧ (0 ≤ c0 ∧ c0 ≤ 150 → c' = c - 1)) ?_ (fun c' m hm => ?_)
               · simp [go_sem, Jo, hm, hBp, hBs]
                 exact ⟨_, fun g1 g2 => by obtain ⟨q1, q2, _⟩ := hG ⟨g1, g2⟩; rw [DJ] <;> omega, AB⟩
               obtain ⟨hm, hc'⟩ := hm
               refine BO 0 (α := Bx × Int) (fun q => [(0, AG l), (1, AA dp), (2, .ptr p 0), (7, AA i), (8, AA j), (9, AA k), (132, .bool q.1.b)]) (fun q => B q.2) (fun q m => n ≤ m ∧ (q.1.b = false → 0 ≤ c0 ∧ c0 ≤ 150 → 0 ≤ q.2 ∧ q.2 ≤ c' ∧ Lo N z.flow)) ?_ (fun q m hm => ?_)
               · generalize c' = c at hc' ⊢
                 by_cases a1 : c < 0
                 · simp [go_sem, Jo, hm, hBp, a1]
                   exact ⟨⟨true⟩, c, by simp, rfl, AB⟩
                 simp [go_sem, hBp, a1, hlt, hx, KW, hjt, hy, Yj, hkt, hz, YP]
                 refine Y9 (z1 _ p c (B c) m (hBp c)) ?_
                 rintro v H' n' ⟨b, c2, rfl, rfl, rfl, hb⟩
                 rw [hBs]
                 simp [go_sem, Jo, hm]
                 exact ⟨⟨!b⟩, c2, fun g ga gb => by
                  have g1 : 0 ≤ c0 ∧ c0 ≤ 150 := ⟨ga, gb⟩
                  obtain ⟨q1, q2, q3⟩ := hG g1
                  have e1 := hc' g1
                  exact hb (by simpa using g) ⟨by omega, by omega⟩, rfl, AB⟩
               obtain ⟨⟨b⟩, c2⟩ := q
               obtain ⟨hm, hb⟩ := hm
               dsimp only at hb ⊢
               cases b with
               | true => exact AK (by simp [go_sem]; exact ret c2 _)
               | false => exact AK (by simp [go_sem, Jo, hm]; exact ⟨_, fun g1 g2 => by
                obtain ⟨q1, q2, _⟩ := hG ⟨g1, g2⟩
                obtain ⟨r1, r2, r3⟩ := hb rfl ⟨g1, g2⟩
                have := hc' ⟨g1, g2⟩
                exact ⟨r1, by omega, r3⟩, AB⟩)
             · obtain ⟨hm, hz2⟩ := hm
               refine AK ?_
               simp [go_sem, w3, Jo, -Int.natCast_add]
               exact ⟨k + 1, by omega, c, ⟨by omega, hm, fun ga gb => ⟨(hz2 ⟨ga, gb⟩).1, (hz2 ⟨ga, gb⟩).2.1, Ld hkt hz (hG ⟨ga, gb⟩).2.2 (hz2 ⟨ga, gb⟩).2.2⟩⟩, rfl, AB⟩
           · refine AK ?_
             have hkk : k = y.cells.length := by omega
             rw [hkk, KE] at hG
             simp [go_sem, hlt, hx, KW, hjt, hy, Yj, hkt, Jo, hm]
             exact ⟨c, fun g1 g2 => ⟨(hG ⟨g1, g2⟩).1, (hG ⟨g1, g2⟩).2.1, hyc, (hG ⟨g1, g2⟩).2.2⟩, AB⟩
         · obtain ⟨hm, hy2⟩ := hm
           refine AK ?_
           simp [go_sem, w2, Jo, -Int.natCast_add]
           exact ⟨j + 1, by omega, c, ⟨by omega, hm, fun ga gb => ⟨(hy2 ⟨ga, gb⟩).1, (hy2 ⟨ga, gb⟩).2.1, Ld hjt hy (hG ⟨ga, gb⟩).2.2 (hy2 ⟨ga, gb⟩).2.2⟩⟩, rfl, AB⟩
       · refine AK ?_
         have hjj : j = x.rows.length := by omega
         rw [hjj, KE] at hG
         simp [go_sem, hlt, hx, KW, hjt, Jo, hm]
         exact ⟨c, fun g1 g2 => ⟨(hG ⟨g1, g2⟩).1, (hG ⟨g1, g2⟩).2.1, (hx3 ⟨g1, g2⟩).1, (hx3 ⟨g1, g2⟩).2, (hG ⟨g1, g2⟩).2.2⟩, AB⟩
     · obtain ⟨hm, hx2⟩ := hm
       refine AK ?_
       simp [go_sem, w1, Jo, -Int.natCast_add]
       exact ⟨i + 1, by omega, c, ⟨by omega, hm, fun ga gb => ⟨(hx2 ⟨ga, gb⟩).1, by have := (hx2 ⟨ga, gb⟩).2.1; omega, Ld hlt hx (hG ⟨ga, gb⟩).2.2 (hx2 ⟨ga, gb⟩).2.2⟩⟩, rfl, AB⟩
   · refine AK ?_
     have hii : i = l.length := by omega
     rw [hii, KE] at hG
     simp [go_sem, hlt, hm]
     exact ⟨c, fun g1 g2 => hG ⟨g1, g2⟩, AB⟩
 · obtain ⟨hm, hl2⟩ := hm
   refine AK ?_
   simp [go_sem]
   refine A3 true c _ fun _ g => ?_
   obtain ⟨q1, q2, q3⟩ := hl2 g
   exact ⟨q1, by omega, by omega, q3⟩
theorem UN {B : Nat} (hB : B ≤ 1048576) : ∀ (N : Nat) (l : List AE), Ex AF.sized B N l → Sq N l
 | 0, _, h => h.elim
 | N + 1, l, h => by
  obtain ⟨h1, _, h3⟩ := Ds.1 h
  refine d33 N l (by omega) fun x hx => ?_
  obtain ⟨a1, a2, a3, a4⟩ := h3 x hx
  exact ⟨a1.props, UN hB N x.flow a2, by omega, fun r hr => ⟨by have := (a4 r hr).2.1; omega, fun c hc => UN hB N c.flow ((a4 r hr).2.2 c hc).2⟩⟩
def Ph (N : Nat) (d : AH) (v : SV) : Prop := ∃ b, v = .bool b ∧ (b = true → GT N d ∧ Lo N d.flow)
set_option maxHeartbeats 4000000 in
theorem t12 (d : AH) {B N : Nat} (hB : B ≤ 1048576) (hl : Ex AF.sized B N d.flow) (hc : TC 24 [d.enc] (Nc (GT N d))) : TC 12 [d.enc] (Ph N d) := by
 intro h n
 refine Da Tryz.func12 rfl fun ho => ?_
 have hHb := ho.lt
 have fin : ∀ (b : Bool) (c : BY) (m : Nat), (b = true → GT N d ∧ Lo N d.flow) → CE n (hset h (n + 1) (some c)) m (.bool b) (fun v h' n' => Ph N d v ∧ h' = h ∧ n' = n) := fun b c m hb => GG ho (AJ (fun j z e => by have := hHb j z e; omega) AB) (by simp [closed]) ⟨b, rfl, hb⟩
 refine Bn 1 [(1, .iptr ([AG d.flow] ++ d.«end».flat ++ [Aj d.revs] ++ d.settings.flat))] h (fun m => n + 1 = m) ?_ (fun m hm => ?_)
 · simp [go_sem, AH.enc, AF.flat, AI.flat]
   exact ⟨AW (Ad hHb (JO _)) (AC _ _ _), AJ hHb AB⟩
 subst hm
 refine Bn 0 [(1, .iptr ([AG d.flow] ++ d.«end».flat ++ [Aj d.revs] ++ d.settings.flat)), (3, .ptr (n + 1) 0)] (hset h (n + 1) (some (.cells [AA 150]))) (fun m => n + 2 = m) ?_ (fun m hm => ?_)
 · simp [go_sem, Jo, AC, Ai]
 subst hm
 have hGb : ∀ j y, hset h (n + 1) (some (.cells [AA 150])) j = some y → j < n + 2 := fun j y e => by
  simp only [hset] at e; split at e
  · omega
  · have := hHb j y e; omega
 refine Bn 1 [(1, .iptr ([AG d.flow] ++ d.«end».flat ++ [Aj d.revs] ++ d.settings.flat)), (3, .ptr (n + 1) 0), (4, .iptr d.settings.flat)] (hset h (n + 1) (some (.cells [AA 150]))) (fun m => n + 2 ≤ m) ?_ (fun m hm => ?_)
 · simp [go_sem, Jo, AF.flat, AI.flat, AC]
   exact ⟨AW (Ad hGb (JO _)) (AC _ _ _), AJ hGb (AJ hGb AB)⟩
 refine AK ?_
 have no := fun c m => fin false c m (by simp)
 by_cases a1 : (d.settings.comments.length : Int) ≤ 30
 case neg => simp [go_sem, AF.flat, AI.flat, a1]; exact no _ _
 by_cases a2 : (d.settings.styles.length : Int) ≤ 30
 case neg => simp [go_sem, AF.flat, AI.flat, a1, a2]; exact no _ _
 by_cases a3 : (d.settings.lists.length : Int) ≤ 30
 case neg => simp [go_sem, AF.flat, AI.flat, a1, a2, a3]; exact no _ _
 by_cases a4 : (d.settings.vars.length : Int) ≤ 30
 case neg => simp [go_sem, AF.flat, AI.flat, a1, a2, a3, a4]; exact no _ _
 by_cases a5 : (d.revs.length : Int) ≤ 30
 case neg => simp [go_sem, AF.flat, AI.flat, a1, a2, a3, a4, a5]; exact no _ _
 simp [go_sem, AF.flat, AI.flat, a1, a2, a3, a4, a5]
 refine Y9 (UN hB N d.flow hl 12 (n + 1) 150 (hset h (n + 1) (some (.cells [AA 150]))) m (AC _ _ _)) ?_
 rintro v H' n' ⟨b, c, rfl, rfl, rfl, hfew⟩
 rw [Ai]
 cases b with
 | false => simp [go_sem]; exact no _ _
 | true =>
 simp [go_sem]
 refine ZY (by simpa [AH.enc, AF.flat, AI.flat] using hc) ?_
 rintro v ⟨e, rfl, hT⟩
 simp [go_sem]
 exact fin _ _ _ fun g => ⟨hT (by simpa using g), (hfew rfl ⟨by omega, by omega⟩).2.2⟩
def E5 (v : SV) : Prop := ∃ e : Int, v = AA e
def trS : Tr := .pure 0 <| .pure 1 <| .pure 3 <| .pure 4 <| .pure 6 <| .pure 7 <| .pure 9 <| .pure 10 <| .one 2 <| .one 5 <| .one 8 <| .one 11 <| .one 12 <| .one 13 <| .one 14 .nil
theorem t83 (s : AI) (h1 : TC 146 [Ac s.styles] E5) (h2 : TC 147 [DS s.lists] E5) (h3 : TC 148 [BZ s.comments] E5) (h4 : TC 149 [Ey s.vars] E5) : TC 83 [s.enc] E5 := by
 intro h n
 refine Da Tryz.func83 rfl fun ho => ?_
 have hHb := ho.lt
 refine AZ 1 [(1, .iptr s.flat)] h n ?_ (fun m hm => ?_)
 · simp [go_sem, AI.enc, AI.flat]
   exact ⟨AW (Ad hHb (JO _)) (AC _ _ _), AJ hHb AB⟩
 refine AV 0 (α := Int) (fun e => [(2, AA e)]) (fun _ => h) (fun _ m => n ≤ m) (Bt trS rfl (by kernel_rfl) (by kernel_rfl) ?_) (fun e m hm => ?_)
 · have hHm : ∀ j y, h j = some y → j < m := fun j y e => by have := hHb j y e; omega
   simp [go_sem, trS, AI.flat]
   refine ZY h1 ?_
   rintro v ⟨e1, rfl⟩
   simp [go_sem]
   refine ZY h2 ?_
   rintro v ⟨e2, rfl⟩
   simp [go_sem]
   refine ZY h3 ?_
   rintro v ⟨e3, rfl⟩
   simp [go_sem]
   refine ZY h4 ?_
   rintro v ⟨e4, rfl⟩
   simp [go_sem]
   refine ZQ (bs := [.imm 1 ([e1, e2, e3, e4].map AA) false]) (h2 := h) 1 (AJ hHm AB) ⟨?_, trivial⟩ ?_
   · exact DN (es := [AA e1, AA e2, AA e3, AA e4]) (Ad hHm (JO _)) (by simp) (by rw [AC]; simp [SV.cells]) (by simp [SV.storable, SV.cells])
   refine (Oz _ (by simp)).use ?_
   simp [go_sem]
   exact ⟨by omega, _, Jo⟩
 · refine AK ?_
   simp [go_sem]
   exact GG ho AB (by simp [closed]) ⟨e, rfl⟩
theorem Uw (N : Nat) (hN : N ≤ 1048576) (g : FuncId) (a b : List SV) (hF : ∀ j, j < N → TC g (a ++ [AA j] ++ b) E5) : TC 150 [AA N, .fn (.func g) a b] E5 := by
 intro h n
 refine gq Tryz.func150 rfl fun ho => ?_
 simp [go_sem]
 refine Aq 0 (α := Nat) (fun k => [(1, .fn (.func g) a b), (7, AA N), (8, AA k)]) (fun _ => h) (fun k m => k ≤ N ∧ n ≤ m) (fun k => N - k) 0 ⟨K2 _, JO _⟩ ?_ AB ?_
 · simp [Am, Fz]
 rintro k m ⟨hk, hnm⟩
 by_cases hlt : k < N
 · have w1 := wS k (by omega)
   have F0 := hF k hlt
   simp only [KF, XA] at F0
   simp [go_sem, hlt]
   refine F0.use ?_
   rintro v ⟨e, rfl⟩
   by_cases h0 : e = 0
   · simp [go_sem, h0, w1, -Int.natCast_add]
     exact ⟨k + 1, by omega, ⟨by omega, hnm⟩, rfl⟩
   · simp [go_sem, h0]
     exact GG ho AB (by simp [closed]) ⟨e, rfl⟩
 · simp [go_sem, hlt]
   exact GG ho AB (by simp [closed]) ⟨0, rfl⟩
def trQ : Tr := .pure 0 <| .pure 1 <| .pure 2 <| .pure 4 <| .pure 5 <| .pure 6 <| .pure 7 <| .one 3 <| .one 8 <| .one 9 <| .one 10 <| .one 11 .nil
theorem t147 (l : List FL) (hl : l.length ≤ 1048576) (hc : ∀ i, i < l.length → TC 210 [AA i, .iptr [DS l]] E5) : TC 147 [DS l] E5 := by
 intro h n
 refine Da Tryz.func147 rfl fun ho => ?_
 have hHb := ho.lt
 refine AZ 1 [(1, .iptr [DS l])] h n ?_ (fun m hm => ?_)
 · simp [go_sem]
   exact ⟨AW (Ad hHb (JO _)) (AC _ _ _), AJ hHb AB⟩
 refine AV 0 (α := Int) (fun e => [(2, AA e)]) (fun _ => h) (fun _ m => n ≤ m) (Bt trQ rfl (by kernel_rfl) (by kernel_rfl) ?_) (fun e m hm => ?_)
 · have hHm : ∀ j y, h j = some y → j < m := fun j y e => by have := hHb j y e; omega
   have hN : (if (64 : Int) < l.length then (64 : Int) else l.length) = ((min l.length 64 : Nat) : Int) := by split <;> omega
   simp [go_sem, trQ]
   refine (Iy _ _).use ?_
   simp [go_sem, hN]
   refine (Uw (min l.length 64) (by omega) 210 [] [.iptr [DS l]] (fun j hj => hc j (by omega))).use ?_
   rintro v ⟨e2, rfl⟩
   simp [go_sem]
   generalize (if 64 < (l.length : Int) then (9 : Int) else 0) = e1
   refine ZQ (bs := [.imm 1 ([e1, e2].map AA) false]) (h2 := h) 1 (AJ hHm AB) ⟨?_, trivial⟩ ?_
   · exact DN (es := [AA e1, AA e2]) (Ad hHm (JO _)) (by simp) (by rw [AC]; simp [SV.cells]) (by simp [SV.storable, SV.cells])
   refine (Oz _ (by simp)).use ?_
   simp [go_sem]
   exact ⟨by omega, _, Jo⟩
 · refine AK ?_
   simp [go_sem]
   exact GG ho AB (by simp [closed]) ⟨e, rfl⟩
theorem t148 (l : List Aw) (hl : l.length ≤ 1048576) (hc : ∀ i, i < l.length → TC 213 [AA i, .iptr [BZ l]] E5) : TC 148 [BZ l] E5 := by
 intro h n
 refine Da Tryz.func148 rfl fun ho => ?_
 have hHb := ho.lt
 refine AZ 1 [(1, .iptr [BZ l])] h n ?_ (fun m hm => ?_)
 · simp [go_sem]
   exact ⟨AW (Ad hHb (JO _)) (AC _ _ _), AJ hHb AB⟩
 refine AV 0 (α := Int) (fun e => [(2, AA e)]) (fun _ => h) (fun _ m => n ≤ m) (Bt trQ rfl (by kernel_rfl) (by kernel_rfl) ?_) (fun e m hm => ?_)
 · have hHm : ∀ j y, h j = some y → j < m := fun j y e => by have := hHb j y e; omega
   have hN : (if (1024 : Int) < l.length then (1024 : Int) else l.length) = ((min l.length 1024 : Nat) : Int) := by split <;> omega
   simp [go_sem, trQ]
   refine (Iy _ _).use ?_
   simp [go_sem, hN]
   refine (Uw (min l.length 1024) (by omega) 213 [] [.iptr [BZ l]] (fun j hj => hc j (by omega))).use ?_
   rintro v ⟨e2, rfl⟩
   simp [go_sem]
   generalize (if 1024 < (l.length : Int) then (9 : Int) else 0) = e1
   refine ZQ (bs := [.imm 1 ([e1, e2].map AA) false]) (h2 := h) 1 (AJ hHm AB) ⟨?_, trivial⟩ ?_
   · exact DN (es := [AA e1, AA e2]) (Ad hHm (JO _)) (by simp) (by rw [AC]; simp [SV.cells]) (by simp [SV.storable, SV.cells])
   refine (Oz _ (by simp)).use ?_
   simp [go_sem]
   exact ⟨by omega, _, Jo⟩
 · refine AK ?_
   simp [go_sem]
   exact GG ho AB (by simp [closed]) ⟨e, rfl⟩
theorem t149 (l : List FX) (hl : l.length ≤ 1048576) (hc : ∀ i, i < l.length → TC 218 [AA i, .iptr [Ey l]] E5) : TC 149 [Ey l] E5 := by
 intro h n
 refine Da Tryz.func149 rfl fun ho => ?_
 have hHb := ho.lt
 refine AZ 1 [(1, .iptr [Ey l])] h n ?_ (fun m hm => ?_)
 · simp [go_sem]
   exact ⟨AW (Ad hHb (JO _)) (AC _ _ _), AJ hHb AB⟩
 refine AV 0 (α := Int) (fun e => [(2, AA e)]) (fun _ => h) (fun _ m => n ≤ m) (Bt trQ rfl (by kernel_rfl) (by kernel_rfl) ?_) (fun e m hm => ?_)
 · have hHm : ∀ j y, h j = some y → j < m := fun j y e => by have := hHb j y e; omega
   have hN : (if (128 : Int) < l.length then (128 : Int) else l.length) = ((min l.length 128 : Nat) : Int) := by split <;> omega
   simp [go_sem, trQ]
   refine (Iy _ _).use ?_
   simp [go_sem, hN]
   refine (Uw (min l.length 128) (by omega) 218 [] [.iptr [Ey l]] (fun j hj => hc j (by omega))).use ?_
   rintro v ⟨e2, rfl⟩
   simp [go_sem]
   generalize (if 128 < (l.length : Int) then (9 : Int) else 0) = e1
   refine ZQ (bs := [.imm 1 ([e1, e2].map AA) false]) (h2 := h) 1 (AJ hHm AB) ⟨?_, trivial⟩ ?_
   · exact DN (es := [AA e1, AA e2]) (Ad hHm (JO _)) (by simp) (by rw [AC]; simp [SV.cells]) (by simp [SV.storable, SV.cells])
   refine (Oz _ (by simp)).use ?_
   simp [go_sem]
   exact ⟨by omega, _, Jo⟩
 · refine AK ?_
   simp [go_sem]
   exact GG ho AB (by simp [closed]) ⟨e, rfl⟩
theorem c211 (l : List FL) (i : Nat) (hi : i < l.length) : PC 211 [AA i, .iptr [DS l]] (AA (l[i]).id) := by
 intro h n
 refine gq Tryz.func211 rfl fun ho => ?_
 simp [go_sem, hi, FL.enc]
 exact A3 ho rfl rfl
def trO : Tr := .pure 0 <| .pure 1 <| .pure 3 <| .pure 4 <| .pure 5 <| .pure 6 <| .pure 7 <| .one 2 <| .one 8 <| .one 9 <| .one 10 <| .one 11 .nil
theorem t210 (l : List FL) (hl : l.length ≤ 1048576) (i : Nat) (hi : i < l.length) (hc : TC 212 [C6 (l[i]).levels] E5) : TC 210 [AA i, .iptr [DS l]] E5 := by
 intro h n
 refine Da Tryz.func210 rfl fun ho => ?_
 have hHb := ho.lt
 obtain ⟨x, hx⟩ : ∃ x, l[i] = x := ⟨_, rfl⟩
 rw [hx] at hc
 refine AZ 0 [(0, AA i), (1, .iptr [DS l])] h n ?_ (fun m hm => ?_)
 · simp [go_sem, Jo]
 refine AV 0 (α := Int) (fun e => [(3, AA e)]) (fun _ => h) (fun _ m => n ≤ m) (Bt trO rfl (by kernel_rfl) (by kernel_rfl) ?_) (fun e m hm => ?_)
 · have hHm : ∀ j y, h j = some y → j < m := fun j y e => by have := hHb j y e; omega
   simp [go_sem, trO, hi, hx, FL.enc]
   have hF : ∀ j, j ≤ i → PC 211 ([] ++ [AA j] ++ [.iptr [DS l]]) (AA (match l[j]? with | some r => r.id | none => 0)) := fun j hj => by
    have hj2 : j < l.length := by omega
    simpa [hj2] using c211 l j hj2
   refine (UH i (by omega) 211 [] [.iptr [DS l]] (fun j => match l[j]? with | some r => r.id | none => 0) hF).use ?_
   generalize Gg (fun j => match l[j]? with | some r => r.id | none => 0) i = e1
   simp [go_sem]
   refine hc.use ?_
   rintro v ⟨e2, rfl⟩
   simp [go_sem]
   refine ZQ (bs := [.imm 1 ([e1, e2].map AA) false]) (h2 := h) 1 (AJ hHm AB) ⟨?_, trivial⟩ ?_
   · exact DN (es := [AA e1, AA e2]) (Ad hHm (JO _)) (by simp) (by rw [AC]; simp [SV.cells]) (by simp [SV.storable, SV.cells])
   refine (Oz _ (by simp)).use ?_
   simp [go_sem]
   exact ⟨by omega, _, Jo⟩
 · refine AK ?_
   simp [go_sem]
   exact GG ho AB (by simp [closed]) ⟨e, rfl⟩
theorem t212 (l : List CZ) (hl : l.length ≤ 1048576) (hc : ∀ x ∈ l, ∀ k : Int, TC 271 [.str x.template, AA k] E5) : TC 212 [C6 l] E5 := by
 intro h n
 refine Da Tryz.func212 rfl fun ho => ?_
 have hHb := ho.lt
 have out : ∀ (e : Int) (m : Nat), CE n h m (AA e) (fun v h' n' => E5 v ∧ h' = h ∧ n' = n) := fun e m => GG ho AB (by simp [closed]) ⟨e, rfl⟩
 refine AZ 0 [(0, C6 l)] h n ?_ (fun m hm => ?_)
 · simp [go_sem, Jo]
 refine Bf 0 [(0, C6 l)] h n (AK ?_) (fun m hm => ?_)
 · by_cases c : l = []
   · simp [go_sem, c]; exact out _ _
   · by_cases c2 : (9 : Int) < l.length
     · simp [go_sem, c, c2]; exact out _ _
     · simp [go_sem, c, c2, Jo, hm]
 refine Bf 0 [] h n ?_ (fun m hm => ?_)
 · refine AZ 0 [(14, C6 l), (15, AA l.length), (16, AA 0)] h n ?_ (fun m hm => ?_)
   · simp [go_sem, Jo, hm]
   refine AX (BX 0 (α := Nat) (fun i => [(14, C6 l), (15, AA l.length), (16, AA i)]) (fun _ => h) (fun i m => i ≤ l.length ∧ n ≤ m) (fun i => l.length - i) 0 ⟨K2 _, hm⟩ ?_ AB ?_)
   · simp [go_sem, Am, Jo]
   rintro i m ⟨hi, hm⟩
   by_cases hlt : i < l.length
   · obtain ⟨x, hx⟩ : ∃ x, l[i] = x := ⟨_, rfl⟩
     have hxm : x ∈ l := by rw [← hx]; exact Kn hlt
     have w1 := wS i (by omega)
     refine AZ 0 [(14, C6 l), (15, AA l.length), (16, AA i), (17, .bool true)] h n ?_ (fun m hm => ?_)
     · simp [go_sem, Jo, hm, hlt]
     refine AZ 0 [(14, C6 l), (15, AA l.length), (16, AA i)] h n ?_ (fun m hm => ?_)
     · simp [go_sem, Jo, hm]
     refine Bf 0 [(14, C6 l), (15, AA l.length), (16, AA i)] h n ?_ (fun m hm => ?_)
     · refine AX ?_
       refine AZ 1 [(14, C6 l), (15, AA l.length), (16, AA i), (3, AA i), (4, .iptr [AA x.format, AA x.start, .str x.template, AA x.restart])] h n ?_ (fun m hm => ?_)
       · have hHm : ∀ j y, h j = some y → j < m := fun j y e => by have := hHb j y e; omega
         simp [go_sem, Jo, hlt, hx, CZ.enc, AC]
         exact ⟨by omega, AW (Ad hHm (JO _)) (AC _ _ _), AJ hHm (AJ hHm AB)⟩
       refine AV 0 (α := Unit) (fun _ => [(14, C6 l), (15, AA l.length), (16, AA i), (3, AA i), (4, .iptr [AA x.format, AA x.start, .str x.template, AA x.restart])]) (fun _ => h) (fun _ m => n ≤ m) (AX (AK ?_)) (fun _ m hm => ?_)
       · by_cases a1 : x.format < 1
         · simp [go_sem, a1]; exact out _ _
         by_cases a2 : 7 < x.format
         · simp [go_sem, a1, a2]; exact out _ _
         by_cases a3 : x.start < 0
         · simp [go_sem, a1, a2, a3]; exact out _ _
         by_cases a4 : 32767 < x.start
         · simp [go_sem, a1, a2, a3, a4]; exact out _ _
         simp [go_sem, a1, a2, a3, a4, Jo, hm]
       refine Bf 0 [(14, C6 l), (15, AA l.length), (16, AA i), (3, AA i), (4, .iptr [AA x.format, AA x.start, .str x.template, AA x.restart])] h n (AK ?_) (fun m hm => ?_)
       · simp [go_sem, w1, -Int.natCast_add]
         refine (hc x hxm _).use ?_
         rintro v ⟨e, rfl⟩
         by_cases e0 : e = 0
         · simp [go_sem, e0, Jo, hm]
         · simp [go_sem, e0]; exact out _ _
       refine AK ?_
       by_cases a1 : x.restart < 0
       · simp [go_sem, a1]; exact out _ _
       by_cases a2 : (i : Int) < x.restart
       · simp [go_sem, a1, a2]; exact out _ _
       simp [go_sem, a1, a2, Jo, hm]
     · refine AK ?_
       simp [go_sem, w1, Jo, -Int.natCast_add]
       exact ⟨i + 1, by omega, ⟨by omega, hm⟩, rfl⟩
   · refine AK ?_
     simp [go_sem, hlt, hm]
 · refine AK ?_
   simp [go_sem]
   exact out _ _
theorem c216 (l : List Aw) (i : Nat) (hi : i < l.length) : PC 216 [AA i, .iptr [BZ l]] (AA (l[i]).id) := by
 intro h n
 refine gq Tryz.func216 rfl fun ho => ?_
 simp [go_sem, hi, Aw.enc]
 exact A3 ho rfl rfl
theorem c215 (x y : Aw) : PC 215 [y.enc, .iptr [AA x.id, AA x.parent, .str x.author, AA x.time, .str x.text, .bool x.done]] (.bool (decide (y.id = x.parent))) := by
 intro h n
 refine gq Tryz.func215 rfl fun ho => ?_
 simp [go_sem, Aw.enc, AC]
 exact Ax ho (AN ho (JO _) AB) (by by_cases h : y.id = x.parent <;> simp [h]) rfl
def trT : Tr := .pure 0 <| .pure 1 <| .pure 3 <| .pure 4 <| .pure 6 <| .pure 7 <| .pure 11 <| .pure 12 <| .pure 16 <| .pure 17 <| .one 2 <| .one 5 <| .one 8 <| .one 9 <| .one 10 <| .one 13 <| .one 14 <| .one 15 <| .one 18 <| .one 19 <| .one 20 <| .one 21 .nil
theorem t213 (l : List Aw) (hl : l.length ≤ 1048576) (hs : ∀ x ∈ l, x.author.size ≤ 1048576 ∧ x.text.size ≤ 1048576) (i : Nat) (hi : i < l.length) : TC 213 [AA i, .iptr [BZ l]] E5 := by
 intro h n
 refine Da Tryz.func213 rfl fun ho => ?_
 have hHb := ho.lt
 obtain ⟨x, hx⟩ : ∃ x, l[i] = x := ⟨_, rfl⟩
 have hxs := hs x (by rw [← hx]; exact Kn hi)
 obtain ⟨X, hX⟩ : ∃ X : SV, X = .iptr [AA x.id, AA x.parent, .str x.author, AA x.time, .str x.text, .bool x.done] := ⟨_, rfl⟩
 refine CJ 0 [(0, AA i), (1, .iptr [BZ l])] h n ?_ (fun m hm => ?_)
 · simp [go_sem, Jo]
 subst hm
 refine AZ 1 [(0, AA i), (1, .iptr [BZ l]), (4, X)] h n ?_ (fun m hm => ?_)
 · rw [hX]
   simp [go_sem, Jo, hi, hx, Aw.enc, AC]
   exact ⟨AW (Ad hHb (JO _)) (AC _ _ _), AJ hHb (AJ hHb AB)⟩
 refine BO 0 (α := Bx) (fun b => [(0, AA i), (1, .iptr [BZ l]), (4, X), (5, .bool b.b)]) (fun _ => h) (fun _ m => n ≤ m) ?_ (fun b m hm => ?_)
 · rw [hX]
   by_cases p0 : x.parent = 0
   · simp [go_sem, p0, Jo, hm]; exact ⟨⟨_⟩, rfl⟩
   · have hle : i ≤ l.length := by omega
     have hc := c214 (l.take i) (by simp; omega) 215 [] [.iptr [AA x.id, AA x.parent, .str x.author, AA x.time, .str x.text, .bool x.done]] (fun j => match (l.take i)[j]? with | some y => decide (y.id = x.parent) | none => false) (fun j hj => by rw [Y1 hj]; exact c215 x _)
     generalize QM (fun j => match (l.take i)[j]? with | some y => decide (y.id = x.parent) | none => false) (l.take i).length = ba at hc
     rw [Zn] at hc
     simp [go_sem, p0, hle, -List.map_take]
     refine Y4 hc ?_
     simp [go_sem, Jo, hm, p0]; exact ⟨⟨ba⟩, Jo⟩
 obtain ⟨b⟩ := b
 dsimp only
 refine AV 0 (α := Int) (fun e => [(3, AA e)]) (fun _ => h) (fun _ m => n ≤ m) (Bt trT rfl (by kernel_rfl) (by kernel_rfl) ?_) (fun e m hm => ?_)
 · have hHm : ∀ j y, h j = some y → j < m := fun j y e => by have := hHb j y e; omega
   rw [hX]
   simp [go_sem, trT]
   have hF : ∀ j, j ≤ i → PC 216 ([] ++ [AA j] ++ [.iptr [BZ l]]) (AA (match l[j]? with | some r => r.id | none => 0)) := fun j hj => by
    have hj2 : j < l.length := by omega
    simpa [hj2] using c216 l j hj2
   refine (UH i (by omega) 216 [] [.iptr [BZ l]] (fun j => match l[j]? with | some r => r.id | none => 0) hF).use ?_
   generalize Gg (fun j => match l[j]? with | some r => r.id | none => 0) i = e1
   simp [go_sem]
   refine (Iy _ _).use ?_
   simp [go_sem]
   refine (c154 x.author (by omega)).use ?_
   simp [go_sem]
   refine (Iy _ _).use ?_
   simp [go_sem]
   refine (Jd _ _ _).use ?_
   simp [go_sem]
   refine (Iy _ _).use ?_
   simp [go_sem]
   refine (c217 x.text (by omega)).use ?_
   simp [go_sem]
   generalize (if b = false then (8 : Int) else 0) = e2
   generalize (if D9 x.author = false then (39 : Int) else 0) = e3
   generalize (if x.time < 0 ∨ 1099511627776 < x.time then (40 : Int) else 0) = e4
   generalize NV x.text = e5
   refine ZQ (bs := [.imm 1 ([e1, e2, e3, e4, e5].map AA) false]) (h2 := h) 1 (AJ hHm AB) ⟨?_, trivial⟩ ?_
   · exact DN (es := [AA e1, AA e2, AA e3, AA e4, AA e5]) (Ad hHm (JO _)) (by simp) (by rw [AC]; simp [SV.cells]) (by simp [SV.storable, SV.cells])
   refine (Oz _ (by simp)).use ?_
   simp [go_sem]
   exact ⟨by omega, _, Jo⟩
 · refine AK ?_
   simp [go_sem]
   exact GG ho AB (by simp [closed]) ⟨e, rfl⟩
section
variable {P : Program} {E : By} {evs : Operand → SV} {o : Oper} {h : Hp} {n : Nat} {K : SV → Hp → Nat → Prop}
abbrev D7 (b : UInt8) : SV := .int .u8 b.toNat
theorem Qn {src dst e : TypeId} {x : Operand} {s : ByteArray} (ho : o.op = .convert src dst x) (hs : Er P src = true) (hd : BC P dst = some e) (he : L8 P e = some .u8) (hx : evs x = .str s)
 (hk : K (.imm 1 (s.data.toList.map D7) false) h n) : EQ E P evs o h n K := by
 refine ⟨by rw [ho]; simp, fun c ev _ _ R F hv => ?_⟩
 have hvx := hv x
 rw [hx] at hvx
 have hvx := Ka hvx
 have hrun := Lib.run_convert_string_bytes (P := P) c.w src dst e s (Es hs) (A5 hd) (F3 he)
 have hsz := Lib.bytesWorld_size c.w e s
 have X : Dc c { c with w := Lib.bytesWorld c.w e s } := by
  refine ⟨fun _ _ e => e, by simp [hsz], fun b hb hn => ⟨hn, Lib.bytesWorld_at_old c.w e s b hb⟩, fun b => ?_, ?_, ?_⟩
  · unfold rm
    rcases Yr b c.w.heap.size with hx | hx
    · simp only [Lib.bytesWorld_at_old c.w e s b hx]; exact JO _
    · simp [YE hx]
  · simp only [Lib.bytesWorld, World.freeze]; split <;> rfl
  · simp only [Lib.bytesWorld, World.freeze]; split <;> rfl
 have hcap : s.size ≤ grownCap c.w s.size 0 e := by unfold grownCap; exact Xm _ _
 have hlen : s.data.toList.length = s.size := by rw [Z9]; rfl
 refine ⟨.slice (some ⟨c.w.heap.size, 0, none⟩) s.size (grownCap c.w s.size 0 e), .imm 1 (s.data.toList.map D7) false, h, n, { c with w := Lib.bytesWorld c.w e s }, by simp only [execOp, ho, hvx, Sem.run_bind, hrun, Result.andThen_ok, Sem.run_pure], ?_, ⟨fun o x e => (R.obj o x e).mono X fun b hb => ?_, R.inj2, R.own2⟩, F, ⟨X, JO _, fun _ _ => rfl⟩, hk⟩
 · rw [V]
   refine .inr ⟨⟨c.w.heap.size, 0, none⟩, grownCap c.w s.size 0 e, s.data.toList.map (fun b => Value.int .u8 b.toNat), by simp [hlen], by simp [hlen]; exact hcap, by simp, ⟨fun _ => rfl, fun _ hb => ?_, fun i x hi => ?_, fun x hx => ?_⟩, ?_⟩
   · obtain ⟨o', x, e1, e2⟩ := (R.own2 _).1 hb
     exact Nat.lt_irrefl _ ((R.obj o' x e1).hold_lt e2)
   · rw [Yh, Yn] at hi
     obtain ⟨b, hb, rfl⟩ := hi
     have hil := (Ky.1 hb).1
     have := Lib.bytesWorld_cell c.w e s i (by omega)
     rw [Xf, hb] at this
     simpa using this
   · obtain ⟨b, _, rfl⟩ := Y5.1 hx; rfl
   · rw [IN]
     refine ⟨s.data.toList.map (fun b => Value.int .u8 b.toNat), AY.map (R := fun a b => a = b) (fun a b e => by subst e; simp [V]) ?_, ?_, ?_, ?_⟩
     · have : ∀ l : List UInt8, AY (fun a b => a = b) l l := fun l => by induction l with | nil => trivial | cons a l ih => exact ⟨rfl, ih⟩
       exact this _
     · intro u hu; obtain ⟨b, _, rfl⟩ := Y5.1 hu; rfl
     · intro u hu; obtain ⟨b, _, rfl⟩ := Y5.1 hu; rfl
     · have : ∀ l : List UInt8, l.map (fun b => Value.int .u8 b.toNat) = (l.map (fun b => Value.int .u8 b.toNat)).flatMap (·.cells.toList) := fun l => by induction l with | nil => rfl | cons a l ih => rw [Y3, Yx, ← ih]; rfl
       exact this _
 · exact Lib.bytesWorld_at_old c.w _ s b ((R.obj o x e).hold_lt hb)
theorem Lz {x : Operand} {ts : Array TypeId} {j off z len : Nat} {full : Bool} (ho : o.op = .call { callee := .builtin .unsafeSliceData, args := #[x], argTypes := ts }) (hx : evs x = .sl j off z len full) (hl : len ≠ 0)
 (hk : K (.ptr j off) h n) : EQ E P evs o h n K := by
 refine ⟨by rw [ho]; simp, fun c ev _ _ R F hv => ?_⟩
 have hvx := hv x
 rw [hx, V] at hvx
 obtain ⟨b, st, cap, hρ, hu, hcap, _⟩ := hvx
 refine ⟨.pointer (some ⟨b, st + off, none⟩), .ptr j off, h, n, c, ?_, by rw [V]; exact ⟨b, st, hρ, rfl⟩, R, F, Zi n c, hk⟩
 refine Bg (P := P) (ev := ev) ho _ _ _ fun cs => ?_
 have hr := Lib.run_unsafeSliceData_row (P := P) c.w ts o.type ⟨b, st + off, none⟩ len cap (by omega)
 simp only [BigFrame.builtin_unsafeSliceData, Sem.run_bind, Sem.run_pure]
 simp only [List.map_toArray, Y3, YR, hu] at hr ⊢
 rw [hr]; rfl
theorem J1 {x y : Operand} {pt it e : TypeId} {j : Nat} {bs : List UInt8} (ho : o.op = .call { callee := .builtin .unsafeString, args := #[x, y], argTypes := #[pt, it] }) (hpt : P.underlying pt = some (.pointer e)) (hc : P.cellsOf e = 1)
 (hx : evs x = .ptr j 0) (hy : evs y = .int .i64 bs.length) (hj : h j = some (.cells (bs.map D7) (some e))) (hne : bs ≠ []) (h63 : bs.length ≤ 9223372036854775807)
 (hk : K (.str ⟨bs.toArray⟩) (hset h j none) n) : EQ E P evs o h n K := by
 refine ⟨by rw [ho]; simp, fun c ev _ _ R F hv => ?_⟩
 have hvx := hv x
 rw [hx, V] at hvx
 obtain ⟨b, st, hρ, hu⟩ := hvx
 have hvy := hv y
 rw [hy] at hvy
 have hvy := DI hvy
 obtain ⟨b', st', arr, e', vs, g1, g2, g3, g4, g5, g6⟩ := R.obj _ _ hj
 rw [hρ] at g1; cases g1
 obtain ⟨hst, rfl⟩ := g6 e rfl
 subst hst
 have hl := g4.length
 rw [Kj] at hl
 have hblt := (KA.1 g2).1
 have hsz : bs.length ≤ arr.size := by
  rcases Nat.eq_zero_or_pos bs.length with h0 | h0
  · omega
  · have hlast : vs[bs.length - 1]? = some vs[bs.length - 1] := Y1 (by omega)
    have := (KA.1 (g3 _ _ hlast)).1
    omega
 have hcell : ∀ i x, bs[i]? = some x → c.w.cell? ((⟨b, 0, none⟩ : Addr).add i) = some (.int .u8 x.toNat) := fun i x hi => by
  have h1 : (bs.map D7)[i]? = some (D7 x) := by rw [Yh, hi]; rfl
  obtain ⟨v, hv1, hv2⟩ := g4.get h1
  have := DI hv2
  subst this
  have h3 := g3 i _ hv1
  rw [Ch rfl]
  simp only [World.cell?, g2]
  simpa using h3
 have hr := Lib.run_unsafeString_row (P := P) c.w pt it o.type e' hpt hc b arr.size (by simp [World.shape?, g2]) bs hne hsz h63 hcell
 have hfz : ∀ k, k ≠ b → (c.w.freeze ⟨b, 0, none⟩ bs.length).heap[k]? = c.w.heap[k]? := fun k hk => by
  unfold World.freeze; split
  · rfl
  · simp only [ZA]; rw [if_neg (Ne.symm hk)]
 have hfs : (c.w.freeze ⟨b, 0, none⟩ bs.length).heap.size = c.w.heap.size := by unfold World.freeze; split <;> simp
 have hown : c.own b := R.ownI ⟨j, _, 0, hj, hρ⟩
 have Rk := R.kill j hj
 have hrm : ∀ k, rm c.w k ≤ rm (c.w.freeze ⟨b, 0, none⟩ bs.length) k := fun k => by
  by_cases hk : k = b
  · subst hk
    have h0 : ¬ bs.length = 0 := by simpa using hne
    unfold rm World.freeze
    rw [if_neg h0]
    simp only [ZA, if_true, g2, Yw]
    exact JO _
  · unfold rm; rw [hfz k hk]; exact JO _
 have hko : ∀ k, ¬ c.own k → ¬ (c.kill j).own k := fun k hk h2 => by
  obtain ⟨o', x', e1, e2⟩ := (Rk.own2 k).1 h2
  simp only [hset] at e1
  split at e1
  · cases e1
  · exact hk ((R.own2 k).2 ⟨o', x', e1, e2⟩)
 have X : Dc c { (c.kill j) with w := c.w.freeze ⟨b, 0, none⟩ bs.length } :=
  ⟨fun _ _ e => e, by simp [hfs], fun k hk hn => ⟨hko k hn, hfz k (by rintro rfl; exact hn hown)⟩, hrm, by unfold World.freeze; split <;> rfl, by unfold World.freeze; split <;> rfl⟩
 refine ⟨.string ⟨bs.toArray⟩, .str ⟨bs.toArray⟩, hset h j none, n, { (c.kill j) with w := c.w.freeze ⟨b, 0, none⟩ bs.length }, ?_, by rw [V], ⟨fun o x e => ?_, Rk.inj2, Rk.own2⟩, F, ⟨X, JO _, fun _ _ => rfl⟩, hk⟩
 · refine Bg (P := P) (ev := ev) ho _ _ _ fun cs => ?_
   simp only [BigFrame.builtin_unsafeString, Sem.run_bind, Sem.run_pure]
   simp only [List.map_toArray, Y3, YR, hu, hvy, Z7] at hr ⊢
   rw [hr]; rfl
 · simp only [hset] at e
   split at e
   · cases e
   · rename_i hoj
     refine (R.obj o x e).mono0 X.to0 fun k hk => hfz k ?_
     intro e0
     rw [e0] at hk
     exact hoj (R.inj2 o j x _ b e hj hk (.inl ⟨0, hρ⟩))
end
set_option maxRecDepth 100000 in
set_option maxHeartbeats 2000000 in
theorem S7 (b : Nat) (w : World) (h0 : w.cell? ⟨b, 2, none⟩ = some (.pointer (some ⟨b, 2, none⟩))) :
 Calls Tryz.prog 335 #[.pointer (some ⟨b, 2, none⟩)] w fun e w' => e = .returned (.tuple #[]) ∧ w' = w := by
 obtain ⟨j, hj, _⟩ := Yn.1 (show (Tryz.prog.info? 386).map (·.size) = some 2 by kernel_rfl)
 go_enter Tryz.func335, Tryz.ntmps335
 go_wp2
 rw [Lib.run_neq_ptr_same w _ Tryz.underlying384 hj]
 go_wp2
 go_end0
 exact ⟨rfl, rfl⟩
theorem liesB (m : Nat) : liesAt Tryz.prog Tryz.prog.depth 388 (m + 1) 2 386 1 = true := by kernel_rfl
theorem RR : Tryz.prog.cellsOf 388 = 7 := by kernel_rfl
set_option maxRecDepth 100000 in
set_option maxHeartbeats 2000000 in
theorem RQ (b k : Nat) (w : World) (h0 : w.cell? ⟨b, 2, none⟩ = some (.pointer none)) (hsh : w.shape? b = some (388, k)) (hk : 7 ≤ k) (hfz : w.frozen? ⟨b, 2, none⟩ = false) :
 Calls Tryz.prog 335 #[.pointer (some ⟨b, 2, none⟩)] w fun e w' => e = .returned (.tuple #[]) ∧ w' = w.setCell ⟨b, 2, none⟩ (.pointer (some ⟨b, 2, none⟩)) := by
 obtain ⟨j, hj, hjs⟩ := Yn.1 (show (Tryz.prog.info? 386).map (·.size) = some 2 by kernel_rfl)
 obtain ⟨m, hm⟩ : ∃ m, k / Tryz.prog.cellsOf 388 = m + 1 := ⟨k / 7 - 1, by rw [RR]; omega⟩
 have hlies := liesB m
 rw [← hm] at hlies
 go_enter Tryz.func335, Tryz.ntmps335
 go_wp2
 rw [Lib.run_to_unsafe w ⟨b, 2, none⟩ Tryz.underlying384 Tryz.underlying403 hj (by rw [hjs]; decide) hsh (by simp; omega)]
 simp only [Result.andThen]
 rw [Oper.upon_value]
 go_wp2
 rw [run_callFunc_extern Tryz.func341 (by kernel_rfl) (by kernel_rfl) (by kernel_rfl) (e := Extern.AbiNoEscape.same) (by kernel_rfl)]
 rw [Lib.run_noEscape]
 simp only [Result.andThen]
 rw [Oper.upon_value]
 go_wp2
 rw [Lib.run_from_unsafe w ⟨b, 2, none⟩ Tryz.underlying403 Tryz.underlying384 hj hsh hlies]
 simp only [Result.andThen]
 rw [Oper.upon_value]
 go_wp2
 go_end0
 exact ⟨rfl, rfl⟩
theorem ok335 : Lv Tryz.prog 335 = true := by unfold Lv; rw [Tryz.func335]; kernel_rfl
theorem d335 {H : Hp} {n q : Nat} {a b p buf : SV} {r : List SV} (hH : H q = some (.cells (a :: b :: p :: buf :: r) (some 388))) (hp : p = .nilp ∨ p = .ptr q 2) (hr : r.length = 3) :
 BN Tryz.prog 335 [.ptr q 2] H n (fun v h' n' => v = .tup [] ∧ h' = hset H q (some (.cells (a :: b :: .ptr q 2 :: buf :: r) (some 388))) ∧ n' = n) := by
 refine ⟨ok335, fun c vs _ R F A => ?_⟩
 obtain ⟨u, rfl, hv⟩ := A.single
 rw [V] at hv
 obtain ⟨b0, st, hρ, rfl⟩ := hv
 obtain ⟨b', st', arr, e, us, g1, g2, g3, g4, g5, g6⟩ := R.obj q _ hH
 rw [hρ] at g1; cases g1
 obtain ⟨hst, rfl⟩ := g6 388 rfl
 subst hst
 obtain ⟨v2, hv2, hvp⟩ := g4.get (i := 2) (a := p) rfl
 have h2 := g3 2 _ hv2
 have hcell : c.w.cell? ⟨b0, 2, none⟩ = some v2 := by simp only [World.cell?, g2]; simpa using h2
 have hlen := g4.length
 simp only [Yl, hr] at hlen
 have hsz : 7 ≤ arr.size := by
  have hlast : us[6]? = some us[6] := Y1 (by omega)
  have := (KA.1 (g3 _ _ hlast)).1
  omega
 have hself : V c (.ptr q 2) (.pointer (some ⟨b0, 2, none⟩)) := by rw [V]; exact ⟨b0, 0, hρ, by simp⟩
 simp only [YV]
 rcases hp with rfl | rfl
 · rw [V] at hvp
   subst hvp
   obtain ⟨w', hrun, R', X⟩ := H7 (P := Tryz.prog) (off := 2) (xs := [.ptr q 2]) (us := [.pointer (some ⟨b0, 2, none⟩)]) R hH hρ (by simp) (by simp) ⟨hself, trivial⟩ (by simp [Value.oneCell'])
   have hrun2 := run_storeCells_cells (P := Tryz.prog) b0 2 [.pointer (some ⟨b0, 2, none⟩)] 0 c.w (by intro j hj; simp at hj; subst hj; simp [hcell]) (by intro j hj; simp at hj; subst hj; simp [World.frozen?, g2]) (by simp [Value.oneCell'])
   simp only [YV, Z7] at hrun hrun2
   rw [hrun] at hrun2
   simp only [Result.ok.injEq, true_and] at hrun2
   refine (RQ b0 arr.size c.w hcell (by simp [World.shape?, g2]) hsz (by simp [World.frozen?, g2])).mono ?_
   rintro e w2 ⟨rfl, rfl⟩
   have hw : w' = c.w.setCell ⟨b0, 2, none⟩ (.pointer (some ⟨b0, 2, none⟩)) := by rw [hrun2]; rfl
   subst hw
   exact ⟨.tuple #[], .tup [], _, n, { c with w := c.w.setCell ⟨b0, 2, none⟩ (.pointer (some ⟨b0, 2, none⟩)) }, rfl, ⟨rfl, rfl, rfl⟩, rfl, by simp [V, VL], by simpa using R', F, ⟨X, JO _, fun _ _ => rfl⟩⟩
 · rw [V] at hvp
   obtain ⟨b1, st1, hρ1, rfl⟩ := hvp
   rw [hρ] at hρ1; cases hρ1
   have hself2 : hset H q (some (.cells (a :: b :: .ptr q 2 :: buf :: r) (some 388))) = H := by
    funext k
    by_cases hk : k = q
    · subst hk; rw [N8, hH]
    · simp [hset, hk]
   refine (S7 b0 c.w (by simpa using hcell)).mono ?_
   rintro e w2 ⟨rfl, rfl⟩
   exact ⟨.tuple #[], .tup [], _, n, c, rfl, ⟨rfl, hself2.symm, rfl⟩, rfl, by simp [V, VL], R, F, Zi n c⟩
def EZ (ob : Option Nat) (bs : List UInt8) : SV := AQ 1 ob (bs.map D7)
theorem appB {H : Hp} {k p : Nat} {ob : Option Nat} {bs : List UInt8} {x : UInt8} (h0 : ob = none → bs = []) (h1 : H k = some (.cells [D7 x])) (h2 : ∀ j, ob = some j → H j = some (.cells (bs.map D7) (some 5))) (hroom : bs.length + 1 ≤ 1073741824) :
 AT Tryz.prog H p .append [381, 381] [EZ ob bs, .sl k 0 1 1 true] = some { val := .sl p 0 1 (bs.length + 1) false, upd := ob.map fun j => (j, none), new := some (.cells ((bs ++ [x]).map D7) (some 5)) } := by
 have e1 : BC Tryz.prog 381 = some 5 := by simp [go_sem]
 have e2 : Bk Tryz.prog 5 = 1 := by simp [go_sem]
 have e3 : (BP Tryz.prog 5).storable = true := by simp [go_sem]
 have e4 : (BP Tryz.prog 5).cells.length = 1 := by simp [go_sem]
 have e5 : Bj Tryz.prog 5 ≤ 65536 := by simp [go_sem]
 have e6 : G9 5 = some 5 := by rfl
 have hfl : flat H (.sl k 0 1 1 true) = some [D7 x] := by simp [flat, h1, Bm]
 have hr : DM (bs.length + 1) (Bj Tryz.prog 5) = true := by simp only [DM, KB, decide_eq_true_eq]; exact ⟨by omega, e5⟩
 simp only [AT, e1, Zb, if_true, C5, Ea, hfl, e2, e3, e4]
 cases ob with
 | none =>
  have := h0 rfl
  subst this
  simp [EZ, AQ, ID, e6]
  simpa using hr
 | some j =>
  have hj := h2 j rfl
  have hf : flat H (.sl j 0 1 bs.length false) = some (bs.map D7) := by simp [flat, hj, Bm]; exact Y8 (by simp)
  have ht : Gp H 5 j 0 = some 5 := by simp [Gp, e6, U0, hj]
  simp [EZ, AQ, ID, hf, hr, ht]
theorem d329 {G : Hp} {n q : Nat} {a at_ p pr pl e : SV} {ob : Option Nat} {bs : List UInt8} {x : UInt8} (hG : G q = some (.cells [a, at_, p, EZ ob bs, pr, pl, e] (some 388))) (hp : p = .nilp ∨ p = .ptr q 2)
 (h0 : ob = none → bs = []) (h2 : ∀ j, ob = some j → j ≠ q ∧ G j = some (.cells (bs.map D7) (some 5))) (hroom : bs.length + 1 ≤ 1073741824) :
 BN Tryz.prog 329 [.ptr q 2, D7 x] G n (fun _ h' n' => ∃ j, (∀ o y, o ≠ q → ob ≠ some o → G o = some y → h' o = some y) ∧ h' q = some (.cells [a, at_, .ptr q 2, EZ (some j) (bs ++ [x]), pr, pl, e] (some 388)) ∧
  h' j = some (.cells ((bs ++ [x]).map D7) (some 5)) ∧ n ≤ j ∧ j < n') := by
 refine Da Tryz.func329 rfl fun ho => ?_
 have hqn : q < n := (ho q _ hG).1
 have hjn : ∀ j, ob = some j → j < n := fun j e => (ho j _ (h2 j e).2).1
 refine CJ 0 [(0, .ptr q 2), (1, D7 x)] G n ?_ (fun m hm => ?_)
 · simp [go_sem, Jo]
 subst hm
 refine CJ 0 [(0, .ptr q 2), (1, D7 x)] (hset G q (some (.cells [a, at_, .ptr q 2, EZ ob bs, pr, pl, e] (some 388)))) n ?_ (fun m hm => ?_)
 · simp [go_sem]
   refine Y9 (d335 hG hp rfl) ?_
   rintro v H' n' ⟨rfl, rfl, rfl⟩
   simp [go_sem, Jo]
 subst hm
 refine AK ?_
 have hne : q ≠ n := by omega
 have hne1 : q ≠ n + 1 := by omega
 simp [go_sem, AC]
 have hap : ∀ p, AT Tryz.prog (hset (hset G q (some (.cells [a, at_, .ptr q 2, EZ ob bs, pr, pl, e] (some 388)))) n (some (.cells [D7 x]))) p .append [381, 381] [EZ ob bs, .sl n 0 1 1 true] = _ := fun p =>
  appB h0 (AC _ _ _) (fun j e => by rw [AD _ _ (by have := hjn j e; omega), AD _ _ (h2 j e).1]; exact (h2 j e).2) hroom
 have hbv : EZ (some (n + 1)) (bs ++ [x]) = .sl (n + 1) 0 1 (bs.length + 1) false := by simp [EZ, AQ]
 cases ob with
 | none =>
  simp [go_sem, hap, AC, AD, hne, hne1]
  refine .inl ⟨fun o y h1 h3 => ?_, n + 1, by rw [AC, hbv], by rw [AD _ _ (Ne.symm hne1), AC], by omega, by omega⟩
  have := (ho o y h3).1
  rw [AD _ _ h1, AD _ _ (by omega), AD _ _ (by omega), AD _ _ h1]; exact h3
 | some j =>
  have hjq := (h2 j rfl).1
  have hjl := hjn j rfl
  have hqj : q ≠ j := Ne.symm hjq
  simp [go_sem, hap, AC, AD, hne, hne1, hqj]
  refine .inl ⟨fun o y h1 h2 h3 => ?_, n + 1, by rw [AC, hbv], by rw [AD _ _ (Ne.symm hne1), AC], by omega, by omega⟩
  have := (ho o y h3).1
  rw [AD _ _ h1, AD _ _ (by omega), AD _ _ (Ne.symm h2), AD _ _ (by omega), AD _ _ h1]; exact h3
theorem UO : Tryz.prog.cellsOf 5 = 1 := by kernel_rfl
theorem d336 {G : Hp} {n q : Nat} {a at_ p pr pl e : SV} {ob : Option Nat} {bs : List UInt8} (hG : G q = some (.cells [a, at_, p, EZ ob bs, pr, pl, e] (some 388))) (h0 : ob = none → bs = []) :
 BN Tryz.prog 336 [.ptr q 2] G n (fun v h' n' => v = AA bs.length ∧ h' = G ∧ n' = n) := by
 refine Da Tryz.func336 rfl fun ho => ?_
 have hqn : q < n := (ho q _ hG).1
 refine AK ?_
 cases ob with
 | none =>
  have := h0 rfl
  subst this
  simp [go_sem, hG, EZ, AQ]
  exact A3 ho rfl rfl
 | some j =>
  simp [go_sem, hG, EZ, AQ]
  exact A3 ho rfl rfl
def trSt : Tr := .pure 0 (.pure 1 (.pure 2 (.pure 5 (.pure 6 (.pure 7 (.two 3 8 (.two 4 8 (.one 8 (.one 9 (.one 10 (.one 11 .nil)))) (.two 4 9 (.one 9 (.one 10 (.one 11 .nil))) (.one 4 (.one 10 (.one 11 .nil))))) (.two 3 9 (.two 4 9 (.one 9 (.one 10 (.one 11 .nil))) (.one 4 (.one 10 (.one 11 .nil)))) (.one 3 (.one 4 (.one 10 (.one 11 .nil)))))))))))
theorem d337 {G : Hp} {n q j : Nat} {a at_ p pr pl e : SV} {bs : List UInt8} (hG : G q = some (.cells [a, at_, p, EZ (some j) bs, pr, pl, e] (some 388))) (hj : G j = some (.cells (bs.map D7) (some 5))) (_hjq : j ≠ q) (hne : bs ≠ []) (hlen : bs.length ≤ 1073741824) :
 BN Tryz.prog 337 [.ptr q 2] G n (fun v h' n' => v = .str ⟨bs.toArray⟩ ∧ h' = hset G j none ∧ n' = n) := by
 refine Da Tryz.func337 rfl fun ho => ?_
 have hqn : q < n := (ho q _ hG).1
 have hl0 : bs.length ≠ 0 := by simpa using hne
 refine CJ 0 [(0, .ptr q 2)] G n ?_ (fun m hm => ?_)
 · simp [go_sem, Jo]
 subst hm
 refine AV 0 (α := Unit) (fun _ => [(2, .str ⟨bs.toArray⟩)]) (fun _ => hset G j none) (fun _ m => n = m) (Bt trSt rfl (by kernel_rfl) (by kernel_rfl) ?_) (fun _ m hm => ?_)
 · have hb : EZ (some j) bs = .sl j 0 1 bs.length false := by simp [EZ, AQ]
   rw [hb] at hG
   simp [go_sem, trSt, hG]
   have hA : ∀ {E : By} {evs : Operand → SV} {o : Oper} {n : Nat} {K : SV → Hp → Nat → Prop} {x : Operand} {ts : Array TypeId}, o.op = .call { callee := .builtin .unsafeSliceData, args := #[x], argTypes := ts } → evs x = .sl j 0 1 bs.length false → K (.ptr j 0) G n → EQ E Tryz.prog evs o G n K := fun e1 e2 k => Lz e1 e2 hl0 k
   have hB : ∀ {E : By} {evs : Operand → SV} {o : Oper} {n : Nat} {K : SV → Hp → Nat → Prop} {x y : Operand} {it : TypeId}, o.op = .call { callee := .builtin .unsafeString, args := #[x, y], argTypes := #[405, it] } → evs x = .ptr j 0 → evs y = AA bs.length → K (.str ⟨bs.toArray⟩) (hset G j none) n → EQ E Tryz.prog evs o G n K := fun e1 e2 e3 k => J1 e1 Tryz.underlying405 UO e2 e3 hj hne (by omega) k
   refine ⟨⟨?_, ?_, ?_⟩, ⟨?_, ?_⟩, ?_⟩
   all_goals
    refine hA rfl rfl ?_
    simp [go_sem, hG]
    refine hB rfl rfl rfl ?_
    simp [go_sem, Jo]
 subst hm
 refine AK ?_
 simp [go_sem]
 refine .inl ⟨rfl, rfl, rfl⟩
theorem d338 {G : Hp} {n q : Nat} {a at_ p b pr pl e : SV} (hG : G q = some (.cells [a, at_, p, b, pr, pl, e] (some 388))) :
 BN Tryz.prog 338 [.ptr q 2] G n (fun v h' n' => v = .tup [] ∧ h' = hset G q (some (.cells [a, at_, .nilp, .imm 0 [] true, pr, pl, e] (some 388))) ∧ n' = n) := by
 refine Da Tryz.func338 rfl fun ho => ?_
 refine AK ?_
 simp [go_sem, hG, AC, Ai]
 refine .inl ⟨rfl, rfl, rfl⟩
theorem Mr {E : By} {N : Nat} {a : Code} {Q : Cl} {sa : SA} {h : Hp} {n : Nat} (H : FM h n → SP E N a Q sa h n) : SP E N a Q sa h n :=
 fun hd c act I R F A => H (fun o x e => Gu F (R.obj o x e)) hd c act I R F A
structure Scd (G : Hp) (q B : Nat) (s : ByteArray) (at_ : Int) (bs : List UInt8) (ps : List Bz) (pl e : Int) (p : SV) (ob op : Option Nat) : Prop where
 le : B ≤ q
 cells : G q = some (.cells [.str s, AA at_, p, EZ ob bs, AQ 3 op (ps.map Bz.enc), AA pl, AA e] (some 388))
 p : p = .nilp ∨ p = .ptr q 2
 b0 : ob = none → bs = []
 b1 : ∀ j, ob = some j → B ≤ j ∧ j ≠ q ∧ bs ≠ [] ∧ G j = some (.cells (bs.map D7) (some 5))
 o0 : op = none → ps = []
 o1 : ∀ j, op = some j → B ≤ j ∧ j ≠ q ∧ ob ≠ some j ∧ G j = some (.cells ((ps.map Bz.enc).flatMap SV.cells))
def RB (G : Hp) (q B : Nat) (s : ByteArray) (at_ : Int) (bs : List UInt8) (ps : List Bz) (pl e : Int) : Prop := ∃ p ob op, Scd G q B s at_ bs ps pl e p ob op
def Tk (q B : Nat) (s : ByteArray) (G : Hp) (n : Nat) (R : Int → List UInt8 → List Bz → Int → Int → Prop) : SV → Hp → Nat → Prop := fun _ h' n' =>
 ∃ at_ bs ps pl e, R at_ bs ps pl e ∧ RB h' q B s at_ bs ps pl e ∧ (∀ o y, o < B → G o = some y → h' o = some y) ∧ n ≤ n'
theorem Bz.len (p : Bz) : p.enc.cells.length = 3 := rfl
theorem Bz.size (ps : List Bz) : ∀ e ∈ ps.map Bz.enc, e.storable = true ∧ e.cells.length = 3 := fun e he => by obtain ⟨x, _, rfl⟩ := Y5.1 he; exact ⟨rfl, rfl⟩
theorem appP {X : Hp} {k p : Nat} {op : Option Nat} {ps : List Bz} {x : Bz} (h0 : op = none → ps = []) (h1 : X k = some (.cells x.enc.cells)) (h2 : ∀ j, op = some j → X j = some (.cells ((ps.map Bz.enc).flatMap SV.cells))) (hroom : ps.length + 1 ≤ 1073741824) :
 AT Tryz.prog X p .append [361, 361] [AQ 3 op (ps.map Bz.enc), .sl k 0 3 1 true] = some { val := .sl p 0 3 (ps.length + 1) false, upd := op.map fun j => (j, none), new := some (.cells ((ps.map Bz.enc).flatMap SV.cells ++ x.enc.cells)) } := by
 have hA : BQ 0 ((op.getD 0) + 1) 3 op (ps.map Bz.enc) := ⟨fun e => by rw [h0 e]; rfl, fun j e => by rw [e]; simp, Bz.size ps⟩
 have := Fd (P := Tryz.prog) (H := X) (t := 361) (t2 := 361) (el := 366) (e := x.enc) (by simp [go_sem]) (by simp [go_sem]) (by simp [go_sem]) (by simp) (by simp [go_sem]) (by simp [go_sem]) (by simp [go_sem]) (by simpa using hroom) hA (Bz.len x) h1 h2 p
 simpa using this
def FlP (G : Hp) (B q n : Nat) (C : Nat → List SV) (es : List SV) (z : Hp × Nat) (m : Nat) : Prop :=
 n ≤ m ∧ z.1 q = some (.cells (C z.2) (some 388)) ∧ z.1 z.2 = some (.cells (es.flatMap SV.cells)) ∧ n ≤ z.2 ∧ z.2 < m ∧ ∀ o y, o < B → G o = some y → z.1 o = some y
def Uz : Tr := .pure 0 (.pure 1 (.pure 2 (.pure 3 (.pure 5 (.pure 6 (.pure 7 (.two 4 8 (.one 8 (.one 9 (.one 10 (.one 11 (.one 12 (.one 13 (.one 14 .nil))))))) (.two 4 9 (.one 9 (.one 10 (.one 11 (.one 12 (.one 13 (.one 14 .nil)))))) (.two 4 10 (.one 10 (.one 11 (.one 12 (.one 13 (.one 14 .nil))))) (.one 4 (.one 11 (.one 12 (.one 13 (.one 14 .nil))))))))))))))
set_option maxHeartbeats 1000000 in
theorem d330 {G : Hp} {n q B : Nat} {s : ByteArray} {at_ pl e : Int} {bs : List UInt8} {ps : List Bz} (S : RB G q B s at_ bs ps pl e) (hb : bs.length ≤ 1048576) (hps : ps.length ≤ 1048576) :
 BN Tryz.prog 330 [.ptr q 0] G n (Tk q B s G n fun at' bs' ps' pl' e' => at' = at_ ∧ bs' = [] ∧ ps'.length ≤ ps.length + 1 ∧ pl' = pl ∧ e' = e) := by
 refine Da Tryz.func330 rfl fun ho => ?_
 obtain ⟨p, ob, op, S⟩ := S
 have hqn : q < n := (ho q _ S.cells).1
 by_cases c : bs = []
 · refine CJ 0 [(0, .ptr q 0), (6, .bool false)] G n ?_ (fun m hm => ?_)
   · simp [go_sem]
     refine Y9 (d336 S.cells S.b0) ?_
     rintro v H' n' ⟨rfl, rfl, rfl⟩
     simp [go_sem, Jo, c]
   subst hm
   refine AK ?_
   simp [go_sem]
   exact .inl ⟨at_, [], ps, pl, e, ⟨rfl, rfl, by omega, rfl, rfl⟩, ⟨p, ob, op, by rw [← c]; exact S⟩, fun o y _ h => h, JO _⟩
 · refine CJ 0 [(0, .ptr q 0), (6, .bool true)] G n ?_ (fun m hm => ?_)
   · simp [go_sem]
     refine Y9 (d336 S.cells S.b0) ?_
     rintro v H' n' ⟨rfl, rfl, rfl⟩
     have : 0 < bs.length := by cases bs <;> simp at c ⊢
     simp [go_sem, Jo, this]
   subst hm
   refine Ap (b := true) (by simp [go_sem]) ?_
   simp only [if_true]
   cases ob with
   | none => exact absurd (S.b0 rfl) c
   | some j =>
   obtain ⟨j1, j2, j3, j4⟩ := S.b1 j rfl
   have hjn : j < n := (ho j _ j4).1
   have hcells := S.cells
   have x1 : q ≠ j := Ne.symm j2
   have x2 : q ≠ n := by omega
   have x3 : q ≠ n + 1 := by omega
   obtain ⟨x, hx⟩ : ∃ x : Bz, x = ⟨⟨bs.toArray⟩, 0, false⟩ := ⟨_, rfl⟩
   obtain ⟨E, hE⟩ : ∃ E, E = (ps ++ [x]).map Bz.enc := ⟨_, rfl⟩
   have hle := S.le
   refine AV 0 (α := Hp × Nat) (fun _ => [(0, .ptr q 0)]) (fun z => z.1) (FlP G B q n (fun k => [.str s, AA at_, p, EZ (some j) bs, AQ 3 (some k) E, AA pl, AA e]) E)
    (Bt Uz rfl (by kernel_rfl) (by kernel_rfl) ?_) (fun z m hm => ?_)
   · have hap : ∀ (X : Hp) (k p : Nat), X k = some (.cells [.str ⟨bs.toArray⟩, AA 0, .bool false]) → (∀ j, op = some j → X j = some (.cells ((ps.map Bz.enc).flatMap SV.cells))) → _ := fun X k p g1 g2 => appP (x := x) (p := p) S.o0 (by rw [hx]; exact g1) g2 (by omega)
     have hfin : ∀ (X : Hp), X q = some (.cells [.str s, AA at_, p, EZ (some j) bs, .sl (n + 1) 0 3 (ps.length + 1) false, AA pl, AA e] (some 388)) → X (n + 1) = some (.cells ((ps.map Bz.enc).flatMap SV.cells ++ x.enc.cells)) → (∀ o y, o < B → G o = some y → X o = some y) →
      FlP G B q n (fun k => [.str s, AA at_, p, EZ (some j) bs, AQ 3 (some k) E, AA pl, AA e]) E (X, n + 1) (n + 2) := fun X g1 g2 g3 => ⟨by omega, by show X q = _; rw [g1, hE]; simp [AQ], by show X (n + 1) = _; rw [g2, hE]; simp, by show n ≤ n + 1; omega, by show n + 1 < n + 2; omega, g3⟩
     have step : Ak (By.plain.call false 0) Tryz.prog 337 [.ptr q 2] G n (fun v h' n' => v = .str ⟨bs.toArray⟩ ∧ h' = hset G j none ∧ n = n') := Y9 (d337 hcells j4 j2 j3 (by omega)) fun v h' n' ⟨a, b, c⟩ => ⟨a, b, c.symm⟩
     cases op with
     | none =>
      have leaf : ∃ a, (∃ x_1, FlP G B q n (fun k => [.str s, AA at_, p, EZ (some j) bs, AQ 3 (some k) E, AA pl, AA e]) E (a, x_1) (n + 1 + 1)) ∧ ∀ (o : Nat) (y : BY), a o = some y → hset (hset (hset (hset G j none) n (some (BY.cells [.str ⟨bs.toArray⟩, AA 0, .bool false]))) (n + 1) (some (.cells (List.flatMap SV.cells (List.map Bz.enc ps) ++ x.enc.cells)))) q (some (.cells [.str s, AA at_, p, EZ (some j) bs, .sl (n + 1) 0 3 (ps.length + 1) false, AA pl, AA e] (some 388))) o = some y :=
       ⟨_, ⟨_, hfin _ (AC _ _ _) ((AD _ _ (Ne.symm x3)).trans (AC _ _ _)) fun o y g1 g2 => by have := (ho o y g2).1; rw [AD _ _ (by omega), AD _ _ (by omega), AD _ _ (by omega), AD _ _ (by omega)]; exact g2⟩, AB⟩
      simp [go_sem, Uz, hcells]
      refine ⟨?_, ?_⟩
      · refine ZT step ?_
        rintro v H' n' ⟨rfl, rfl, rfl⟩
        simp [go_sem, hap, AC, AD, hcells, x1, x2, x3]
        exact leaf
      · refine ZT step ?_
        rintro v H' n' ⟨rfl, rfl, rfl⟩
        simp [go_sem, hap, AC, AD, hcells, x1, x2, x3]
        exact leaf
     | some i =>
      obtain ⟨i1, i2, i3, i4⟩ := S.o1 i rfl
      have hin : i < n := (ho i _ i4).1
      have hij : i ≠ j := by rintro rfl; exact i3 rfl
      have y1 : i ≠ n := by omega
      have y2 : q ≠ i := Ne.symm i2
      have leaf : ∃ a, (∃ x_1, FlP G B q n (fun k => [.str s, AA at_, p, EZ (some j) bs, AQ 3 (some k) E, AA pl, AA e]) E (a, x_1) (n + 1 + 1)) ∧ ∀ (o : Nat) (y : BY), a o = some y → hset (hset (hset (hset (hset G j none) n (some (BY.cells [.str ⟨bs.toArray⟩, AA 0, .bool false]))) i none) (n + 1) (some (.cells (List.flatMap SV.cells (List.map Bz.enc ps) ++ x.enc.cells)))) q (some (.cells [.str s, AA at_, p, EZ (some j) bs, .sl (n + 1) 0 3 (ps.length + 1) false, AA pl, AA e] (some 388))) o = some y :=
       ⟨_, ⟨_, hfin _ (AC _ _ _) ((AD _ _ (Ne.symm x3)).trans (AC _ _ _)) fun o y g1 g2 => by have := (ho o y g2).1; rw [AD _ _ (by omega), AD _ _ (by omega), AD _ _ (by omega), AD _ _ (by omega), AD _ _ (by omega)]; exact g2⟩, AB⟩
      simp [go_sem, Uz, hcells]
      refine ⟨?_, ?_⟩
      · refine ZT step ?_
        rintro v H' n' ⟨rfl, rfl, rfl⟩
        simp [go_sem, hap, AC, AD, hcells, x1, x2, x3, y1, y2, hij, i4]
        exact leaf
      · refine ZT step ?_
        rintro v H' n' ⟨rfl, rfl, rfl⟩
        simp [go_sem, hap, AC, AD, hcells, x1, x2, x3, y1, y2, hij, i4]
        exact leaf
   obtain ⟨H, k⟩ := z
   obtain ⟨m1, m2, m3, m4, m5, m6⟩ := hm
   dsimp only at m2 m3 m4 m6 ⊢
   rw [hE] at m2 m3
   refine AK ?_
   simp [go_sem]
   refine Y9 (d338 m2) ?_
   rintro v H' n' ⟨rfl, rfl, rfl⟩
   simp [go_sem]
   have := S.le
   refine .inl ⟨at_, [], ps ++ [x], pl, e, ⟨rfl, rfl, ?_, rfl, rfl⟩, ⟨.nilp, none, some k, ⟨S.le, by rw [AC]; simp [EZ, AQ], .inl rfl, fun _ => rfl, by simp, by simp, ?_⟩⟩, fun o y g1 g2 => ?_, by omega⟩
   · simp
   · rintro i hi; cases hi
     exact ⟨by omega, by omega, by simp, by rw [AD _ _ (by omega)]; exact m3⟩
   · rw [AD _ _ (by omega)]; exact m6 o y g1 g2
def DgQ (s : ByteArray) (k : Int) (G : Hp) (n : Nat) : SV → Hp → Nat → Prop := fun v h' n' => (∃ b, v = .bool b ∧ (b = true → k < s.size)) ∧ h' = G ∧ n' = n
theorem d333 {G : Hp} {n q B : Nat} {s : ByteArray} {at_ pl e : Int} {bs : List UInt8} {ps : List Bz} (S : RB G q B s at_ bs ps pl e) (k : Int) (hk : 0 ≤ k) :
 BN Tryz.prog 333 [.ptr q 0, AA k] G n (DgQ s k G n) := by
 refine Da Tryz.func333 rfl fun ho => ?_
 obtain ⟨p, ob, op, S⟩ := S
 have hc := S.cells
 refine AK ?_
 by_cases c : k < s.size
 · have hkl : k.toNat < s.size := by omega
   obtain ⟨x, hx⟩ : ∃ x, s[k.toNat]'hkl = x := ⟨_, rfl⟩
   have hb : s[k.toNat]? = some x := by rw [RO hkl, hx]
   by_cases c1 : (49 : Int) ≤ x.toNat
   · simp [go_sem, hc, c, hk, hx, c1]
     exact .inl ⟨⟨_, rfl, fun _ => c⟩, rfl, rfl⟩
   · simp [go_sem, hc, c, hk, hx, c1]
     exact .inl ⟨⟨_, rfl, fun _ => c⟩, rfl, rfl⟩
 · simp [go_sem, hc, c]
   exact .inl ⟨⟨false, rfl, by simp⟩, rfl, rfl⟩
def PlP (G : Hp) (B q n : Nat) (s : ByteArray) (at_ pl e : Int) (N : Nat) (z : Hp × List Bz) (m : Nat) : Prop := n ≤ m ∧ RB z.1 q B s at_ [] z.2 pl e ∧ z.2.length ≤ N ∧ ∀ o y, o < B → G o = some y → z.1 o = some y
set_option maxHeartbeats 1000000 in
theorem d334 {G : Hp} {n q B : Nat} {s : ByteArray} {at_ pl e d : Int} {b : Bool} {bs : List UInt8} {ps : List Bz} (S : RB G q B s at_ bs ps pl e) (hb : bs.length ≤ 1048576) (hps : ps.length ≤ 1048576) :
 BN Tryz.prog 334 [.ptr q 0, .int .u8 d, .bool b] G n (Tk q B s G n fun at' bs' ps' _ e' => at' = at_ ∧ bs' = [] ∧ ps'.length ≤ ps.length + 2 ∧ e' = e) := by
 refine Da Tryz.func334 rfl fun ho => ?_
 refine BO 0 (α := Hp × List Bz) (fun _ => [(0, .ptr q 0), (1, .int .u8 d), (2, .bool b)]) (fun z => z.1) (PlP G B q n s at_ pl e (ps.length + 1)) ?_ (fun z m hm => ?_)
 · simp [go_sem]
   refine Y9 (d330 S hb hps) ?_
   rintro v H' n' ⟨a1, a2, a3, a4, a5, ⟨rfl, rfl, r3, rfl, rfl⟩, r6, r7, r8⟩
   simp [go_sem, Jo]
   exact ⟨H', ⟨a3, r8, r6, r3, r7⟩, AB⟩
 obtain ⟨X, ps1⟩ := z
 obtain ⟨hm, S1, hl1, hk1⟩ := hm
 dsimp only at S1 hl1 hk1 ⊢
 refine Mr fun hX => ?_
 have hlt : ∀ o y, X o = some y → o < m := fun o y e => (hX o y e).1
 refine BO 0 (α := Hp × List Bz) (fun _ => [(0, .ptr q 0)]) (fun z => z.1) (PlP G B q n s at_ pl e (ps.length + 2)) ?_ (fun z m hm => ?_)
 · have hle0 := S1.choose_spec.choose_spec.choose_spec.le
   obtain ⟨p, ob, op, S1⟩ := S1
   cases ob with
   | some j => exact absurd rfl (S1.b1 j rfl).2.2.1
   | none =>
   have hcells := S1.cells
   obtain ⟨x, hx⟩ : ∃ x : Bz, x = ⟨.empty, IntKind.i64.wrap (IntKind.u8.wrap (d - 48)), b⟩ := ⟨_, rfl⟩
   have hap : ∀ (X : Hp) (k p : Nat), X k = some (.cells [.str .empty, AA (IntKind.i64.wrap (IntKind.u8.wrap (d - 48))), .bool b]) → (∀ j, op = some j → X j = some (.cells ((ps1.map Bz.enc).flatMap SV.cells))) → _ := fun X k p g1 g2 => appP (x := x) (p := p) S1.o0 (by rw [hx]; exact g1) g2 (by omega)
   have hqm : q < m := hlt q _ hcells
   have x2 : q ≠ m := by omega
   have x3 : q ≠ m + 1 := by omega
   have hsc : ∀ (Y : Hp), Y q = some (.cells [.str s, AA at_, p, EZ none [], .sl (m + 1) 0 3 (ps1.length + 1) false, AA pl, AA e] (some 388)) → Y (m + 1) = some (.cells ((ps1.map Bz.enc).flatMap SV.cells ++ x.enc.cells)) → RB Y q B s at_ [] (ps1 ++ [x]) pl e := fun Y g1 g2 =>
    ⟨p, none, some (m + 1), S1.le, by rw [g1]; simp [AQ], S1.p, fun _ => rfl, by simp, by simp, by rintro i hi; cases hi; exact ⟨by omega, by omega, by simp, by rw [g2]; simp⟩⟩
   cases op with
   | none =>
    have leaf : ∃ a, (∃ x_1, PlP G B q n s at_ pl e (ps.length + 2) (a, x_1) (m + 1 + 1)) ∧ ∀ (o : Nat) (y : BY), a o = some y → hset (hset (hset X m (some (BY.cells [.str .empty, AA (IntKind.i64.wrap (IntKind.u8.wrap (d - 48))), .bool b]))) (m + 1) (some (.cells (List.flatMap SV.cells (List.map Bz.enc ps1) ++ x.enc.cells)))) q (some (.cells [.str s, AA at_, p, EZ none [], .sl (m + 1) 0 3 (ps1.length + 1) false, AA pl, AA e] (some 388))) o = some y :=
     ⟨_, ⟨ps1 ++ [x], by omega, hsc _ (AC _ _ _) ((AD _ _ (Ne.symm x3)).trans (AC _ _ _)), by simp; omega, fun o y g1 g2 => by have := (ho o y g2).1; dsimp only; rw [AD _ _ (by omega), AD _ _ (by omega), AD _ _ (by omega)]; exact hk1 o y g1 g2⟩, AB⟩
    simp [go_sem, hcells, AC, AD, x2, x3, hap]
    exact leaf
   | some i =>
    obtain ⟨i1, i2, i3, i4⟩ := S1.o1 i rfl
    have hin : i < m := hlt i _ i4
    have y1 : i ≠ m := by omega
    have y2 : q ≠ i := Ne.symm i2
    have leaf : ∃ a, (∃ x_1, PlP G B q n s at_ pl e (ps.length + 2) (a, x_1) (m + 1 + 1)) ∧ ∀ (o : Nat) (y : BY), a o = some y → hset (hset (hset (hset X m (some (BY.cells [.str .empty, AA (IntKind.i64.wrap (IntKind.u8.wrap (d - 48))), .bool b]))) i none) (m + 1) (some (.cells (List.flatMap SV.cells (List.map Bz.enc ps1) ++ x.enc.cells)))) q (some (.cells [.str s, AA at_, p, EZ none [], .sl (m + 1) 0 3 (ps1.length + 1) false, AA pl, AA e] (some 388))) o = some y :=
     ⟨_, ⟨ps1 ++ [x], by omega, hsc _ (AC _ _ _) ((AD _ _ (Ne.symm x3)).trans (AC _ _ _)), by simp; omega, fun o y g1 g2 => by have := (ho o y g2).1; dsimp only; rw [AD _ _ (by omega), AD _ _ (by omega), AD _ _ (by omega), AD _ _ (by omega)]; exact hk1 o y g1 g2⟩, AB⟩
    simp [go_sem, hcells, AC, AD, x2, x3, hap, y1, y2, i4]
    exact leaf
 obtain ⟨X2, ps2⟩ := z
 obtain ⟨hm2, S2, hl2, hk2⟩ := hm
 dsimp only at S2 hl2 hk2 ⊢
 refine AK ?_
 obtain ⟨p, ob, op, S2⟩ := S2
 have hc2 := S2.cells
 simp [go_sem, hc2]
 have hle := S2.le
 refine .inl ⟨at_, [], ps2, IntKind.i64.wrap (pl + 1), e, ⟨rfl, rfl, hl2, rfl⟩, ⟨p, ob, op, S2.le, AC _ _ _, S2.p, S2.b0, fun j g => absurd rfl (S2.b1 j g).2.2.1, S2.o0, fun j g => ?_⟩, fun o y g1 g2 => ?_, hm2⟩
 · obtain ⟨i1, i2, i3, i4⟩ := S2.o1 j g
   exact ⟨i1, i2, i3, by rw [AD _ _ i2]; exact i4⟩
 · rw [AD _ _ (by omega)]; exact hk2 o y g1 g2
def PreT (a b : ByteArray) (v : SV) : Prop := ∃ x, v = .bool x ∧ (x = true → b.size ≤ a.size)
theorem t340 (a b : ByteArray) : TC 340 [.str a, .str b] (PreT a b) := by
 intro h n
 refine Da Tryz.func340 rfl fun ho => ?_
 refine AK ?_
 by_cases c : (b.size : Int) ≤ a.size
 · simp [go_sem, c]
   exact GG ho AB (by simp [closed]) ⟨_, rfl, fun _ => by omega⟩
 · simp [go_sem, c]
   exact GG ho AB (by simp [closed]) ⟨_, rfl, by simp⟩
theorem t332 (a b : ByteArray) : TC 332 [.str a, .str b] (PreT a b) := by
 intro h n
 refine Da Tryz.func332 rfl fun ho => ?_
 refine AK ?_
 simp [go_sem]
 refine ZY (t340 a b) ?_
 rintro v ⟨x, rfl, hx⟩
 simp [go_sem]
 exact GG ho AB (by simp [closed]) ⟨x, rfl, hx⟩
theorem Scd.upd {G : Hp} {q B : Nat} {s : ByteArray} {at_ pl e : Int} {bs : List UInt8} {ps : List Bz} {p : SV} {ob op : Option Nat} (S : Scd G q B s at_ bs ps pl e p ob op) (at' pl' e' : Int) :
 RB (hset G q (some (.cells [.str s, AA at', p, EZ ob bs, AQ 3 op (ps.map Bz.enc), AA pl', AA e'] (some 388)))) q B s at' bs ps pl' e' :=
 ⟨p, ob, op, S.le, AC _ _ _, S.p, S.b0, fun j g => by obtain ⟨a, b, c, d⟩ := S.b1 j g; exact ⟨a, b, c, by rw [AD _ _ b]; exact d⟩, S.o0, fun j g => by obtain ⟨a, b, c, d⟩ := S.o1 j g; exact ⟨a, b, c, by rw [AD _ _ b]; exact d⟩⟩
theorem Tu {G : Hp} {n q B : Nat} {s : ByteArray} {at_ pl e : Int} {bs : List UInt8} {ps : List Bz} (S : RB G q B s at_ bs ps pl e) (ho : FM G n) (hb : bs.length ≤ 1048576) (x : UInt8) :
 BN Tryz.prog 329 [.ptr q 2, D7 x] G n (Tk q B s G n fun at' bs' ps' pl' e' => at' = at_ ∧ bs' = bs ++ [x] ∧ ps' = ps ∧ pl' = pl ∧ e' = e) := by
 obtain ⟨p, ob, op, S⟩ := S
 have hqn := (ho q _ S.cells).1
 have hle := S.le
 refine (d329 (x := x) S.cells S.p S.b0 (fun j g => ⟨(S.b1 j g).2.1, (S.b1 j g).2.2.2⟩) (by omega)).mono ?_
 rintro v h' n' ⟨j, g1, g2, g3, g4, g5⟩
 refine ⟨at_, bs ++ [x], ps, pl, e, ⟨rfl, rfl, rfl, rfl, rfl⟩, ⟨.ptr q 2, some j, op, S.le, g2, .inr rfl, by simp, fun i hi => ?_, S.o0, fun i hi => ?_⟩, fun o y h1 h2 => g1 o y (by omega) (fun g => ?_) h2, by omega⟩
 · cases hi; exact ⟨by omega, by omega, by simp, g3⟩
 · obtain ⟨i1, i2, i3, i4⟩ := S.o1 i hi
   have := (ho i _ i4).1
   exact ⟨i1, i2, fun g => by cases g; omega, g1 i _ i2 i3 i4⟩
 · have := (S.b1 o g).1; omega
def trPa : Tr := .pure 0 (.pure 1 (.pure 2 (.pure 4 (.pure 5 (.pure 6 (.two 3 7 (.one 7 (.one 8 (.one 9 (.pure 10 .nil)))) (.one 3 (.one 8 (.one 9 (.pure 10 .nil))))))))))
def Td : Tr := .pure 0 (.pure 1 (.pure 2 (.pure 3 (.pure 5 (.pure 6 (.pure 7 (.two 4 8 (.one 8 (.pure 9 (.one 10 (.one 11 .nil)))) (.pure 9 (.one 4 (.one 10 (.one 11 .nil)))))))))))
def trPc : Tr := .pure 0 (.pure 1 (.pure 2 (.pure 4 (.pure 5 (.pure 6 (.two 3 7 (.one 7 (.one 8 (.one 9 (.pure 10 (.pure 11 (.pure 12 (.pure 13 (.pure 14 (.one 15 (.pure 16 (.one 17 (.pure 18 (.pure 19 .nil))))))))))))) (.one 3 (.one 8 (.one 9 (.pure 10 (.pure 11 (.pure 12 (.pure 13 (.pure 14 (.one 15 (.pure 16 (.one 17 (.pure 18 (.pure 19 .nil)))))))))))))))))))
def BkP (n : Nat) (P : Prop) (b : Bx) (m : Nat) : Prop := n ≤ m ∧ (b.b = true → P)
def Ss (G : Hp) (q B n : Nat) (s : ByteArray) (R : Int → List UInt8 → List Bz → Int → Int → Prop) (z : Hp) (m : Nat) : Prop := n ≤ m ∧ ∃ at_ bs ps pl e, R at_ bs ps pl e ∧ RB z q B s at_ bs ps pl e ∧ ∀ o y, o < B → G o = some y → z o = some y
theorem Tk.st {q B : Nat} {s : ByteArray} {G : Hp} {n0 n : Nat} {R : Int → List UInt8 → List Bz → Int → Int → Prop} {v : SV} {h' : Hp} {n' : Nat} (H : Tk q B s G n R v h' n') (hn : n0 ≤ n) : Ss G q B n0 s R h' n' := by
 obtain ⟨a1, a2, a3, a4, a5, h1, h2, h3, h4⟩ := H
 exact ⟨by omega, a1, a2, a3, a4, a5, h1, h2, h3⟩
def PcR (s : ByteArray) (at_ e : Int) (bs : List UInt8) (ps : List Bz) : Int → List UInt8 → List Bz → Int → Int → Prop := fun at' bs' ps' _ e' =>
 ((at_ < at' ∧ at' ≤ s.size ∧ e' = e) ∨ (at' = at_ ∧ e' = 14)) ∧ bs'.length ≤ bs.length + 1 ∧ ps'.length ≤ ps.length + 2
set_option maxHeartbeats 2000000 in
theorem d328 {G : Hp} {n q B : Nat} {s : ByteArray} {at_ pl e : Int} {bs : List UInt8} {ps : List Bz} (S : RB G q B s at_ bs ps pl e) (h0 : 0 ≤ at_) (h1 : at_ < s.size) (hs : s.size ≤ 1048576) (hb : bs.length ≤ 1048576) (hps : ps.length ≤ 1048576) :
 BN Tryz.prog 328 [.ptr q 0] G n (Tk q B s G n (PcR s at_ e bs ps)) := by
 refine Da Tryz.func328 rfl fun ho => ?_
 obtain ⟨p0, ob0, op0, S0⟩ := id S
 have hc := S0.cells
 have w1 : IntKind.i64.wrap (at_ + 1) = at_ + 1 := by rw [DJ] <;> omega
 have w2 : IntKind.i64.wrap (at_ + 2) = at_ + 2 := by rw [DJ] <;> omega
 have w3 : IntKind.i64.wrap (at_ + 3) = at_ + 3 := by rw [DJ] <;> omega
 have fin : ∀ (z : Hp) (m : Nat) (a1 e1 at' pl1 pl' e' : Int) (bs' : List UInt8) (ps' : List Bz) (p : SV) (ob op : Option Nat), Scd z q B s a1 bs' ps' pl1 e1 p ob op → (∀ o y, o < B → G o = some y → z o = some y) → n ≤ m → PcR s at_ e bs ps at' bs' ps' pl' e' →
  CE n (hset z q (some (.cells [.str s, AA at', p, EZ ob bs', AQ 3 op (ps'.map Bz.enc), AA pl', AA e'] (some 388)))) m (.tup []) (Tk q B s G n (PcR s at_ e bs ps)) := fun z m a1 e1 at' pl1 pl' e' bs' ps' p ob op T hk hm hR =>
  .inl ⟨at', bs', ps', pl', e', hR, T.upd at' pl' e', fun o y g1 g2 => by have := T.le; rw [AD _ _ (by omega)]; exact hk o y g1 g2, hm⟩
 refine AX ?_
 refine AV 0 (α := Bx) (fun b => [(0, .ptr q 0), (5, .bool b.b)]) (fun _ => G) (BkP n (at_ + 2 ≤ s.size)) (Bt trPa rfl (by kernel_rfl) (by kernel_rfl) ?_) (fun b m hm => ?_)
 · have hpre : ∀ {K : SV → Hp → Nat → Prop}, (∀ b : Bx, BkP n (at_ + 2 ≤ s.size) b n → K (.bool b.b) G n) → Ak (By.plain.call false 0) Tryz.prog 332 [.str (s.extract at_.toNat s.size), .str ⟨#[37, 37]⟩] G n K := fun hK =>
    ZY (t332 _ _) fun v ⟨x, e1, e2⟩ => by
     rw [e1]
     refine hK ⟨x⟩ ⟨JO _, fun g => ?_⟩
     have := e2 g
     simp at this
     have h9 : (⟨#[37, 37]⟩ : ByteArray).size = 2 := rfl
     omega
   simp [go_sem, trPa, hc, h0]
   have := Int.le_of_lt h1
   simp [this]
   refine ⟨?_, ?_⟩ <;>
   · refine hpre fun b hb => ?_
     simp [go_sem, Jo]
     exact ⟨b, hb, rfl⟩
 obtain ⟨b⟩ := b
 obtain ⟨hm, hbb⟩ := hm
 dsimp only at hbb ⊢
 cases b with
 | true =>
  have hbb := hbb rfl
  refine Ap (b := true) (by simp [go_sem]) ?_
  simp only [if_true]
  refine Mr fun hom => ?_
  refine BO 0 (α := Hp) (fun _ => [(0, .ptr q 0)]) (fun z => z) (Ss G q B n s fun at' bs' ps' pl' e' => at' = at_ ∧ bs' = bs ++ [37] ∧ ps' = ps ∧ pl' = pl ∧ e' = e) ?_ (fun z m hm => ?_)
  · simp [go_sem]
    refine Y9 (show BN Tryz.prog 329 [.ptr q 2, .int .u8 37] G _ _ from Tu S hom hb 37) ?_
    rintro v H' n' hq
    simp [go_sem, Jo]
    exact ⟨H', hq.st hm, AB⟩
  obtain ⟨hm, a1, a2, a3, a4, a5, ⟨rfl, rfl, rfl, rfl, rfl⟩, ⟨p, ob, op, T⟩, hk⟩ := hm
  refine AK ?_
  have hT := T.cells
  simp [go_sem, hT, w2]
  exact fin _ _ _ _ _ _ _ _ _ _ _ _ _ T hk hm ⟨.inl ⟨by omega, hbb, rfl⟩, by simp, by omega⟩
 | false =>
  refine Ap (b := false) (by simp [go_sem]) ?_
  simp only [KC, if_false]
  refine BO 0 (α := Bx) (fun b => [(0, .ptr q 0), (27, .bool b.b)]) (fun _ => G) (BkP n (at_ + 1 < s.size)) ?_ (fun b m hm => ?_)
  · simp [go_sem, hc, w1]
    refine Y9 (d333 S (at_ + 1) (by omega)) ?_
    rintro v H' n' ⟨⟨b, rfl, IK⟩, rfl, rfl⟩
    simp [go_sem, Jo]
    exact ⟨⟨b⟩, ⟨hm, IK⟩, rfl⟩
  obtain ⟨b⟩ := b
  obtain ⟨hm, hbb⟩ := hm
  dsimp only at hbb ⊢
  cases b with
  | true =>
   have hbb := hbb rfl
   refine Ap (b := true) (by simp [go_sem]) ?_
   simp only [if_true]
   refine AV 0 (α := Hp) (fun _ => [(0, .ptr q 0)]) (fun z => z) (Ss G q B n s fun at' bs' ps' _ e' => at' = at_ ∧ bs' = [] ∧ ps'.length ≤ ps.length + 2 ∧ e' = e) (Bt Td rfl (by kernel_rfl) (by kernel_rfl) ?_) (fun z m hm => ?_)
   · have hkl : (at_ + 1).toNat < s.size := by omega
     obtain ⟨x, hx⟩ : ∃ x, s[(at_ + 1).toNat]'hkl = x := ⟨_, rfl⟩
     have hgx : s[(at_ + 1).toNat]? = some x := by rw [RO hkl, hx]
     have h01 : 0 ≤ at_ + 1 := by omega
     simp [go_sem, Td, hc, w1, h01, hgx]
     refine ⟨?_, ?_⟩ <;>
     · refine Y9 (d334 S hb hps) ?_
       rintro v H' n' hq
       simp [go_sem, Jo]
       exact ⟨H', hq.st hm, AB⟩
   obtain ⟨hm, a1, a2, a3, a4, a5, ⟨rfl, rfl, hl, rfl⟩, ⟨p, ob, op, T⟩, hk⟩ := hm
   refine AK ?_
   have hT := T.cells
   simp [go_sem, hT, w2]
   exact fin _ _ _ _ _ _ _ _ _ _ _ _ _ T hk hm ⟨.inl ⟨by omega, by omega, rfl⟩, by simp, hl⟩
  | false =>
   refine Ap (b := false) (by simp [go_sem]) ?_
   simp only [KC, if_false]
   refine AV 0 (α := Bx) (fun b => [(0, .ptr q 0), (54, .bool b.b)]) (fun _ => G) (BkP n (at_ + 2 < s.size)) (Bt trPc rfl (by kernel_rfl) (by kernel_rfl) ?_) (fun b m hm => ?_)
   · have h1' := Int.le_of_lt h1
     simp [go_sem, trPc, hc, h0, h1']
     refine ⟨?_, ?_⟩ <;>
     · refine ZY (t332 _ _) ?_
       rintro v ⟨b, rfl, _⟩
       cases b with
       | false =>
        simp [go_sem, Jo]
        exact ⟨⟨false⟩, ⟨hm, by simp⟩, rfl⟩
       | true =>
        simp [go_sem, hc, w2]
        refine Y9 (d333 S (at_ + 2) (by omega)) ?_
        rintro v H' n' ⟨⟨b, rfl, IK⟩, rfl, rfl⟩
        simp [go_sem, Jo]
        exact ⟨⟨b⟩, ⟨hm, IK⟩, rfl⟩
   obtain ⟨b⟩ := b
   obtain ⟨hm, hbb⟩ := hm
   dsimp only at hbb ⊢
   cases b with
   | true =>
    have hbb := hbb rfl
    refine Ap (b := true) (by simp [go_sem]) ?_
    simp only [if_true]
    refine AV 0 (α := Hp) (fun _ => [(0, .ptr q 0)]) (fun z => z) (Ss G q B n s fun at' bs' ps' _ e' => at' = at_ ∧ bs' = [] ∧ ps'.length ≤ ps.length + 2 ∧ e' = e) (Bt Td rfl (by kernel_rfl) (by kernel_rfl) ?_) (fun z m hm => ?_)
    · have hkl : (at_ + 2).toNat < s.size := by omega
      obtain ⟨x, hx⟩ : ∃ x, s[(at_ + 2).toNat]'hkl = x := ⟨_, rfl⟩
      have hgx : s[(at_ + 2).toNat]? = some x := by rw [RO hkl, hx]
      have h01 : 0 ≤ at_ + 2 := by omega
      simp [go_sem, Td, hc, w2, h01, hgx]
      refine ⟨?_, ?_⟩ <;>
      · refine Y9 (d334 S hb hps) ?_
        rintro v H' n' hq
        simp [go_sem, Jo]
        exact ⟨H', hq.st hm, AB⟩
    obtain ⟨hm, a1, a2, a3, a4, a5, ⟨rfl, rfl, hl, rfl⟩, ⟨p, ob, op, T⟩, hk⟩ := hm
    refine AK ?_
    have hT := T.cells
    simp [go_sem, hT, w3]
    exact fin _ _ _ _ _ _ _ _ _ _ _ _ _ T hk hm ⟨.inl ⟨by omega, by omega, rfl⟩, by simp, hl⟩
   | false =>
    refine Ap (b := false) (by simp [go_sem]) ?_
    simp only [KC, if_false]
    refine AK ?_
    simp [go_sem, hc]
    exact fin _ _ _ _ _ _ _ _ _ _ _ _ _ S0 (fun _ _ _ h => h) hm ⟨.inr ⟨rfl, rfl⟩, by omega, by omega⟩
def Sg : Tr := .pure 0 (.pure 1 (.pure 2 (.pure 4 (.pure 5 (.pure 6 (.two 3 7 (.one 7 (.one 8 (.pure 9 (.pure 10 (.pure 11 (.pure 12 (.pure 13 (.one 14 (.pure 15 (.pure 16 .nil)))))))))) (.two 3 8 (.one 8 (.pure 9 (.pure 10 (.pure 11 (.pure 12 (.pure 13 (.one 14 (.pure 15 (.pure 16 .nil))))))))) (.one 3 (.pure 9 (.pure 10 (.pure 11 (.pure 12 (.pure 13 (.one 14 (.pure 15 (.pure 16 .nil))))))))))))))))
def trSb : Tr := .pure 0 (.pure 1 (.pure 2 (.pure 4 (.pure 5 (.pure 6 (.two 3 7 (.one 7 (.one 8 (.pure 9 .nil))) (.one 3 (.one 8 (.pure 9 .nil)))))))))
def trSc : Tr := .pure 0 (.pure 1 (.pure 2 (.pure 3 (.pure 4 (.pure 5 (.pure 7 (.pure 8 (.pure 9 (.two 6 10 (.one 10 (.one 11 (.one 12 .nil))) (.one 6 (.one 11 (.one 12 .nil))))))))))))
def SnR (s : ByteArray) (z : Int × Int) : Int → List UInt8 → List Bz → Int → Int → Prop := fun at_ bs ps _ e =>
 at_ = z.1 ∧ e = z.2 ∧ 0 ≤ at_ ∧ at_ ≤ s.size ∧ (e = 0 → (bs.length : Int) ≤ at_ ∧ (ps.length : Int) ≤ 2 * at_) ∧ (bs.length : Int) ≤ at_ + 1 ∧ (ps.length : Int) ≤ 2 * at_ + 2
def SnI (G : Hp) (q B n : Nat) (s : ByteArray) (z : Hp × Int × Int) (m : Nat) : Prop := Ss G q B n s (SnR s z.2) z.1 m
def SnM (s : ByteArray) (z : Hp × Int × Int) : Nat := 2 * (s.size - z.2.1).toNat + (if z.2.2 = 0 then 1 else 0)
set_option maxHeartbeats 2000000 in
theorem d320 {G : Hp} {n q B : Nat} {s : ByteArray} {pl : Int} (S : RB G q B s 0 [] [] pl 0) (hs : s.size ≤ 1024) :
 BN Tryz.prog 320 [.ptr q 0] G n (Tk q B s G n fun _ _ ps' _ _ => ps'.length ≤ 1048576) := by
 refine Da Tryz.func320 rfl fun ho => ?_
 refine AV 0 (α := Hp × Int × Int) (fun _ => [(0, .ptr q 0)]) (fun z => z.1) (SnI G q B n s) ?_ (fun z m hm => ?_)
 · refine AX (BX 0 (α := Hp × Int × Int) (fun _ => [(0, .ptr q 0)]) (fun z => z.1) (SnI G q B n s) (SnM s) (G, 0, 0) ⟨JO _, 0, [], [], pl, 0, ⟨rfl, rfl, by omega, by simp, by simp, by simp, by simp⟩, S, fun _ _ _ h => h⟩ ?_ AB ?_)
   · simp [go_sem, Am, Jo]
   rintro ⟨z, a0, e0⟩ m ⟨hm, at_, bs, ps, pl2, e, ⟨h1, h2, h3, h4, h5, h6, h7⟩, T, hk⟩
   dsimp only at h1 h2 T hk ⊢
   subst h1; subst h2
   obtain ⟨p, ob, op, T0⟩ := id T
   have hc := T0.cells
   by_cases c : at_ < s.size ∧ e = 0
   · obtain ⟨c1, rfl⟩ := c
     have hl := h5 rfl
     have hbl : bs.length ≤ 1024 ∧ ps.length ≤ 2048 := by omega
     refine Bf 0 [(0, .ptr q 0)] z m ?_ (fun m3 hm3 => ?_)
     · refine AV 0 (α := Unit) (fun _ => [(0, .ptr q 0), (18, .bool true)]) (fun _ => z) (fun _ m2 => m ≤ m2) (Bt Sg rfl (by kernel_rfl) (by kernel_rfl) ?_) (fun _ m2 hm2 => ?_)
       · simp [go_sem, Sg, hc, c1, Jo]
       refine AK ?_
       simp [go_sem, Jo, hm2]
     refine AX ?_
     have hkl : at_.toNat < s.size := by omega
     obtain ⟨x, hx⟩ : ∃ x, s[at_.toNat]'hkl = x := ⟨_, rfl⟩
     have hgx : s[at_.toNat]? = some x := by rw [RO hkl, hx]
     refine Bf 0 [(0, .ptr q 0)] z m ?_ (fun m4 hm4 => ?_)
     · refine AV 0 (α := Bx) (fun b => [(0, .ptr q 0), (28, .bool b.b)]) (fun _ => z) (fun _ m4 => m3 ≤ m4) (Bt trSb rfl (by kernel_rfl) (by kernel_rfl) ?_) (fun b m4 hm4 => ?_)
       · simp [go_sem, trSb, hc, h3, hgx, Jo]
         exact ⟨⟨_⟩, rfl⟩
       obtain ⟨b⟩ := b
       refine AK ?_
       cases b with
       | false => simp [go_sem, Jo]; omega
       | true =>
        simp [go_sem]
        refine Y9 (d328 T h3 c1 (by omega) (by omega) (by omega)) ?_
        rintro v H' n' ⟨a1, a2, a3, a4, a5, ⟨hor, r2, r3⟩, r6, r7, r8⟩
        simp [go_sem, Jo]
        have hk2 : ∀ o y, o < B → G o = some y → H' o = some y := fun o y g1 g2 => r7 o y g1 (hk o y g1 g2)
        refine ⟨H', a1, a5, ?_, ⟨by omega, a1, a2, a3, a4, a5, ⟨rfl, rfl, by omega, by omega, fun g => by omega, by omega, by omega⟩, r6, hk2⟩, AB⟩
        rcases hor with ⟨g1, g2, rfl⟩ | ⟨rfl, rfl⟩
        · simp [SnM]; omega
        · simp [SnM]
     refine Mr fun hom => ?_
     refine AV 0 (α := Hp) (fun _ => [(0, .ptr q 0)]) (fun y => y) (Ss z q B m s fun at' bs' ps' pl' e' => at' = at_ ∧ bs' = bs ++ [x] ∧ ps' = ps ∧ pl' = pl2 ∧ e' = 0) (Bt trSc rfl (by kernel_rfl) (by kernel_rfl) ?_) (fun y m5 hm5 => ?_)
     · simp [go_sem, trSc, hc, h3, hgx]
       refine ⟨?_, ?_⟩ <;>
       · refine Y9 (Tu T hom (by omega) x) ?_
         rintro v H' n' hq
         simp [go_sem, Jo]
         exact ⟨H', hq.st hm4, AB⟩
     obtain ⟨hm5, a1, a2, a3, a4, a5, ⟨rfl, rfl, rfl, rfl, rfl⟩, ⟨p1, ob1, op1, T1⟩, hk1⟩ := hm5
     have hT := T1.cells
     have w1 : IntKind.i64.wrap (a1 + 1) = a1 + 1 := by rw [DJ] <;> omega
     refine AK ?_
     simp [go_sem, hT, w1, Jo]
     refine ⟨_, a1 + 1, 0, by simp [SnM]; omega, ⟨by omega, a1 + 1, bs ++ [x], a3, a4, 0, ⟨rfl, rfl, by omega, by omega, fun _ => by simp; omega, by simp; omega, by omega⟩, T1.upd (a1 + 1) a4 0, fun o w g1 g2 => ?_⟩, AB⟩
     have := T1.le
     exact (AD _ _ (show o ≠ q by omega)).trans (hk1 o w g1 (hk o w g1 g2))
   · refine CD 0 [] z (fun _ => False) ?_ (fun _ hF => hF.elim)
     refine AV 0 (α := Unit) (fun _ => [(0, .ptr q 0), (18, .bool false)]) (fun _ => z) (fun _ m2 => m ≤ m2) (Bt Sg rfl (by kernel_rfl) (by kernel_rfl) ?_) (fun _ m2 hm2 => ?_)
     · by_cases c1 : at_ < s.size
       · have c2 : ¬ e = 0 := fun g => c ⟨c1, g⟩
         have c3 : (e == 0) = false := by simpa using c2
         simp [go_sem, Sg, hc, c1, c3, Jo]
       · simp [go_sem, Sg, hc, c1, Jo]
     refine AK ?_
     simp [go_sem, Jo]
     exact ⟨z, ⟨at_, e, by omega, at_, bs, ps, pl2, e, ⟨rfl, rfl, h3, h4, h5, h6, h7⟩, T, hk⟩, AB⟩
 · obtain ⟨z, a0, e0⟩ := z
   obtain ⟨hm, at_, bs, ps, pl2, e, ⟨h1, h2, h3, h4, h5, h6, h7⟩, T, hk⟩ := hm
   dsimp only at h1 h2 T hk ⊢
   refine BO 0 (α := Hp) (fun _ => [(0, .ptr q 0)]) (fun y => y) (Ss z q B m s fun _ _ ps' _ _ => ps'.length ≤ 1048576) ?_ (fun y m2 hm2 => ?_)
   · simp [go_sem]
     refine Y9 (d330 T (by omega) (by omega)) ?_
     rintro v H' n' ⟨b1, b2, b3, b4, b5, ⟨r1, r2, r3, r4, r5⟩, r6, r7, r8⟩
     simp [go_sem, Jo]
     exact ⟨H', ⟨r8, b1, b2, b3, b4, b5, by dsimp only; omega, r6, r7⟩, AB⟩
   obtain ⟨hm2, b1, b2, b3, b4, b5, hps, ⟨p1, ob1, op1, T1⟩, hk1⟩ := hm2
   have hc := T1.cells
   refine AK ?_
   by_cases c1 : b5 = 0
   · by_cases c2 : 9 < b4
     · simp [go_sem, hc, c1, c2]
       refine .inl ⟨b1, b2, b3, b4, 9, hps, T1.upd b1 b4 9, fun o y g1 g2 => ?_, by omega⟩
       have := T1.le
       rw [AD _ _ (by omega)]; exact hk1 o y g1 (hk o y g1 g2)
     · simp [go_sem, hc, c1, c2]
       exact .inl ⟨b1, b2, b3, b4, b5, hps, ⟨p1, ob1, op1, T1⟩, fun o y g1 g2 => hk1 o y g1 (hk o y g1 g2), by omega⟩
   · simp [go_sem, hc, c1]
     exact .inl ⟨b1, b2, b3, b4, b5, hps, ⟨p1, ob1, op1, T1⟩, fun o y g1 g2 => hk1 o y g1 (hk o y g1 g2), by omega⟩
theorem c319 (b : Int) : PC 319 [IJ b] (.bool (decide (b < 32) || decide (b = 127))) := by
 intro h n
 refine gq Tryz.func319 rfl fun ho => ?_
 by_cases c : b < 32
 · simp [go_sem, c]
   exact A3 ho rfl rfl
 · simp [go_sem, c]
   exact A3 ho rfl (by by_cases c2 : b = 127 <;> simp [c2])
def PaT (v : SV) : Prop := ∃ (ps : List Bz) (e : Int), v = .tup [.imm 3 (ps.map Bz.enc) false, AA e] ∧ ps.length ≤ 1048576
def trPr : Tr := .pure 0 (.pure 1 (.pure 2 (.pure 4 (.one 3 (.pure 5 .nil)))))
theorem t302 (s : ByteArray) (hs : s.size ≤ 1048576) : TC 302 [.str s] PaT := by
 intro h n
 refine Da Tryz.func302 rfl fun ho => ?_
 have out : ∀ (H : Hp) (m : Nat) (e : Int), (∀ j y, h j = some y → H j = some y) → CE n H m (.tup [.imm 0 [] true, AA e]) (fun v h' n' => PaT v ∧ h' = h ∧ n' = n) := fun H m e hh =>
  T5 2 ho hh (v := .tup [.imm 3 [] false, AA e]) (.inr ⟨BR (by simp), Jo, trivial⟩) (by simp [closed, closedL]) ⟨[], e, rfl, by simp⟩
 refine AZ 0 [(0, .str s)] h n ?_ (fun m hm => ?_)
 · simp [go_sem, Jo]
 refine AV 0 (α := Unit) (fun _ => [(0, .str s)]) (fun _ => h) (fun _ m => n ≤ m ∧ s.size ≤ 64) (AX ?_) (fun _ m hm => ?_)
 · by_cases a1 : (64 : Int) < s.size
   · refine AK ?_
     simp [go_sem, a1]
     exact out _ _ _ AB
   have hl : s.size ≤ 64 := by omega
   refine AK ?_
   simp [go_sem, a1]
   refine (O8 s (by omega)).use ?_
   cases Bd s with
   | false =>
    simp [go_sem]
    exact out _ _ _ AB
   | true =>
   simp [go_sem]
   have hby : ∀ b : List UInt8, b.map D7 = (b.map fun x => (x.toNat : Int)).map IJ := fun b => by rw [YW]; rfl
   refine Qn (s := s) (e := 5) rfl (by simp [go_sem]) (by simp [go_sem]) (by simp [go_sem]) rfl ?_
   rw [hby]
   have hlen : s.data.toList.length = s.size := by rw [Z9]; rfl
   have h318 := c318 (s.data.toList.map fun x => (x.toNat : Int)) (by simp [hlen]; omega) 319 [] [] (fun i => match (s.data.toList.map fun x => (x.toNat : Int))[i]? with | some b => decide (b < 32) || decide (b = 127) | none => false) (fun i hi => by rw [Y1 hi]; exact c319 _)
   generalize QM _ _ = b at h318
   generalize (s.data.toList.map fun x => (x.toNat : Int)).map IJ = L at h318 ⊢
   simp [go_sem]
   refine Y4 h318 ?_
   cases b with
   | true =>
    simp [go_sem]
    exact out _ _ _ AB
   | false =>
    simp [go_sem, Jo, hm, hl]
 obtain ⟨hm, hl⟩ := hm
 refine Mr fun hom => ?_
 refine BO 0 (α := Hp) (fun _ => [(4, .ptr m 0)]) (fun z => z) (fun z m2 => m < m2 ∧ RB z m m s 0 [] [] 0 0 ∧ ∀ o y, h o = some y → z o = some y) ?_ (fun z m2 hm2 => ?_)
 · simp [go_sem, Jo]
   exact ⟨_, ⟨⟨.nilp, none, none, JO _, AC _ _ _, .inl rfl, fun _ => rfl, by simp, fun _ => rfl, by simp⟩, AJ (fun j y e => (hom j y e).1) AB⟩, AB⟩
 obtain ⟨hm2, S, hk⟩ := hm2
 refine AV 0 (α := Hp) (fun _ => [(4, .ptr m 0)]) (fun y => y) (Ss z m m m2 s fun _ _ ps' _ _ => ps'.length ≤ 1048576) ?_ (fun y m3 hm3 => ?_)
 · refine BO 0 (α := Hp) (fun _ => [(4, .ptr m 0)]) (fun y => y) (Ss z m m m2 s fun _ _ ps' _ _ => ps'.length ≤ 1048576) ?_ (fun y m3 hm3 => ?_)
   · simp [go_sem]
     refine Y9 (d320 S (by omega)) ?_
     rintro v H' n' hq
     simp [go_sem, Jo]
     exact ⟨H', hq.st (JO _), AB⟩
   obtain ⟨hm3, b1, b2, ps, b4, e, hps, ⟨p1, ob1, op1, T⟩, hk1⟩ := hm3
   have hc := T.cells
   have hkk : ∀ o w, h o = some w → y o = some w := fun o w g => hk1 o w (hom o w g).1 (hk o w g)
   by_cases c1 : e = 0
   · refine AK ?_
     simp [go_sem, hc, c1, Jo]
     exact ⟨y, ⟨by omega, b1, b2, ps, b4, e, hps, ⟨p1, ob1, op1, T⟩, hk1⟩, AB⟩
   · have c2 : (e != 0) = true := by simpa using c1
     refine Bn 0 [(4, .ptr m 0), (26, .bool true)] y (fun _ => True) ?_ (fun m4 _ => ?_)
     · simp [go_sem, hc, c2, Jo]
     refine Ap (b := true) (by simp [go_sem]) ?_
     simp only [if_true]
     refine AV 0 (α := Unit) (fun _ => [(2, .imm 0 [] true), (3, AA e)]) (fun _ => y) (fun _ _ => True) (Bt trPr rfl (by kernel_rfl) (by kernel_rfl) ?_) (fun _ m5 _ => ?_)
     · simp [go_sem, trPr, hc, Jo]
     refine AK ?_
     simp [go_sem]
     exact out _ _ _ hkk
 obtain ⟨hm3, b1, b2, ps, b4, e, hps, ⟨p1, ob1, op1, T⟩, hk1⟩ := hm3
 have hc := T.cells
 have hkk : ∀ o w, h o = some w → y o = some w := fun o w g => hk1 o w (hom o w g).1 (hk o w g)
 refine AK ?_
 simp [go_sem, hc]
 have hA : BQ n (m3 + (op1.getD 0) + 1) 3 op1 (ps.map Bz.enc) := ⟨fun e => by rw [T.o0 e]; rfl, fun j e => ⟨by have := (T.o1 j e).1; omega, by rw [e]; simp; omega⟩, Bz.size ps⟩
 have hh : ∀ j w, AS op1 (ps.map Bz.enc) h j = some w → y j = some w := fun j w g => by
  cases op1 with
  | none => exact hkk j w g
  | some i =>
   simp only [AS, hset] at g
   split at g
   · rename_i hji; subst hji; rw [(T.o1 j rfl).2.2.2]; exact g
   · exact hkk j w g
 exact T5 2 ho hkk (v := .tup [.imm 3 (ps.map Bz.enc) false, AA 0]) (.inr ⟨AQ.fz ho hA hh, Jo, trivial⟩) (by simp [closed, closedL]; exact Df.2 fun s hs => by obtain ⟨x, _, rfl⟩ := Y5.1 hs; rfl) ⟨ps, 0, rfl, hps⟩
theorem c304 (p : Bz) (k : Int) : PC 304 [p.enc, .iptr [AA k]] (.bool (decide (k < p.level))) := by
 intro h n
 refine gq Tryz.func304 rfl fun ho => ?_
 simp [go_sem, Bz.enc, AC]
 exact Ax ho (AN ho (JO _) AB) rfl rfl
theorem t271 (s : ByteArray) (hs : s.size ≤ 1048576) (k : Int) : TC 271 [.str s, AA k] E5 := by
 intro h n
 refine Da Tryz.func271 rfl fun ho => ?_
 have hHb := ho.lt
 have out : ∀ (e : Int) (m : Nat), CE n h m (AA e) (fun v h' n' => E5 v ∧ h' = h ∧ n' = n) := fun e m => GG ho AB (by simp [closed]) ⟨e, rfl⟩
 refine AZ 1 [(0, .str s), (3, .iptr [AA k])] h n ?_ (fun m hm => ?_)
 · simp [go_sem, Jo]
   exact ⟨AW (Ad hHb (JO _)) (AC _ _ _), AJ hHb AB⟩
 refine Bf 0 [(0, .str s), (3, .iptr [AA k])] h n (AK ?_) (fun m hm => ?_)
 · by_cases a1 : k < 1
   · simp [go_sem, a1]; exact out _ _
   by_cases a2 : 9 < k
   · simp [go_sem, a1, a2]; exact out _ _
   simp [go_sem, a1, a2, Jo, hm]
 refine AK ?_
 simp [go_sem]
 refine ZY (t302 s hs) ?_
 rintro v ⟨ps, e, rfl, hps⟩
 by_cases c : e = 0
 · have h303 := c303 ps hps 304 [] [.iptr [AA k]] (fun i => match ps[i]? with | some p => decide (k < p.level) | none => false) (fun i hi => by rw [Y1 hi]; exact c304 _ k)
   generalize QM _ _ = b at h303
   simp [go_sem, c]
   refine Y4 h303 ?_
   cases b <;> simp [go_sem] <;> exact out _ _
 · have c2 : (e == 0) = false := by simpa using c
   simp [go_sem, c2]
   exact out _ _
theorem Je {E : By} {ops : Array Oper} {K : SA → Hp → Nat → Prop} {sa : SA} {h : Hp} {n : Nat} {b : Bool} {e : Int} {rest : List Oper} {tr : List CP} {dst : Option Tmp}
 (hk : ∀ r : Int, JD E Tryz.prog ops K rest tr sa { dst := dst, val := AA r } h n) : Bq E Tryz.prog ops K sa h n 87 [.bool b, AA e] rest tr dst :=
 YL _ _ _ _ _ _ (Iy b e) (hk _)
theorem Pw {E : By} {ops : Array Oper} {K : SA → Hp → Nat → Prop} {sa : SA} {h : Hp} {n : Nat} {s : ByteArray} (hs : s.size ≤ 1048576) {rest : List Oper} {tr : List CP} {dst : Option Tmp}
 (hk : ∀ r : Int, JD E Tryz.prog ops K rest tr sa { dst := dst, val := AA r } h n) : Bq E Tryz.prog ops K sa h n 217 [.str s] rest tr dst :=
 YL _ _ _ _ _ _ (c217 s (by omega)) (hk _)
set_option maxHeartbeats 2000000 in
theorem t218 (l : List FX) (hl : l.length ≤ 1048576) (hs : ∀ x ∈ l, x.name.size ≤ 1048576 ∧ x.value.size ≤ 1048576) (i : Nat) (hi : i < l.length) : TC 218 [AA i, .iptr [Ey l]] E5 := by
 intro h n
 refine gq Tryz.func218 rfl fun ho => ?_
 obtain ⟨x, hx⟩ : ∃ x, l[i] = x := ⟨_, rfl⟩
 have hxs := hs x (by rw [← hx]; exact Kn hi)
 by_cases h0 : i = 0
 · subst h0
   simp [go_sem, hi, hx, FX.enc]
   repeat first | refine nq ?_ | refine sq ?_
   refine YL _ _ _ _ _ _ (UK x.name) ?_
   simp [go_sem]
   repeat first | refine nq ?_ | refine sq ?_
   refine Je fun e1 => ?_
   simp [go_sem]
   repeat first | refine nq ?_ | refine sq ?_
   refine Je fun e2 => ?_
   simp [go_sem]
   repeat first | refine nq ?_ | refine sq ?_
   refine Je fun e3 => ?_
   simp [go_sem, hi, hx, FX.enc]
   repeat first | refine nq ?_ | refine sq ?_
   refine Pw hxs.2 fun e4 => ?_
   simp [go_sem]
   repeat first | refine nq ?_ | refine sq ?_
   refine Bq.lend _ _ _ _ _ _ 2 [n] (Oz [e1, e2, e3, e4] (by simp)) rfl (by simp) (fun h' hh => ?_) ?_
   · have := hh n (by simp)
     simp [hset] at this
     simp [AY, Fz, this, Bm, SV.storable, SV.cells]
   simp [go_sem]
   repeat first | refine nq ?_ | refine sq ?_
   exact GG ho (AN ho (JO _) AB) (by simp [closed]) ⟨_, rfl⟩
 · have hip : 0 < i := by omega
   have hmx : (if (1 : Int) > i then (1 : Int) else i) = i := by split <;> omega
   have hmx2 : (if (1 : Int) < i then (i : Int) else 1) = i := by split <;> omega
   have w1 : IntKind.i64.wrap ((i : Int) - 1) = ((i - 1 : Nat) : Int) := by rw [DJ] <;> omega
   have hi1 : i - 1 < l.length := by omega
   obtain ⟨y, hy⟩ : ∃ y, l[i - 1] = y := ⟨_, rfl⟩
   simp [go_sem, hi, hx, FX.enc]
   repeat first | refine nq ?_ | refine sq ?_
   refine YL _ _ _ _ _ _ (UK x.name) ?_
   simp [go_sem]
   repeat first | refine nq ?_ | refine sq ?_
   refine Je fun e1 => ?_
   simp [go_sem, hi, hx, FX.enc, hip, w1, hi1, hy, hmx]
   repeat first | refine nq ?_ | refine sq ?_
   refine Je fun e2 => ?_
   simp [go_sem, hi, hx, FX.enc, hip, w1, hi1, hy, hmx]
   repeat first | refine nq ?_ | refine sq ?_
   refine Je fun e3 => ?_
   simp [go_sem, hi, hx, FX.enc]
   repeat first | refine nq ?_ | refine sq ?_
   refine Pw hxs.2 fun e4 => ?_
   simp [go_sem]
   repeat first | refine nq ?_ | refine sq ?_
   refine Bq.lend _ _ _ _ _ _ 2 [n] (Oz [e1, e2, e3, e4] (by simp)) rfl (by simp) (fun h' hh => ?_) ?_
   · have := hh n (by simp)
     simp [hset] at this
     simp [AY, Fz, this, Bm, SV.storable, SV.cells]
   simp [go_sem]
   repeat first | refine nq ?_ | refine sq ?_
   exact GG ho (AN ho (JO _) AB) (by simp [closed]) ⟨_, rfl⟩
def Q8 : Tr := .pure 0 (.pure 1 (.pure 2 (.pure 3 (.pure 4 (.pure 5 (.pure 6 (.pure 7 (.pure 8 (.pure 9 (.pure 10 (.pure 11 (.pure 12 (.pure 13 .nil)))))))))))))
def trO2 : Tr := .pure 0 (.pure 1 (.pure 3 (.pure 4 (.pure 5 (.pure 6 (.one 2 (.one 7 (.pure 8 (.pure 9 (.pure 10 (.pure 11 (.pure 12 .nil))))))))))))
def trO3 : Tr := .pure 0 (.pure 1 (.pure 3 (.pure 4 (.one 2 (.one 5 (.pure 6 .nil))))))
set_option maxHeartbeats 2000000 in
theorem t207 (l : List A7) (hl : l.length ≤ 1048576) (hs : ∀ x ∈ l, x.props.length ≤ 1048576) (i : Nat) (hi : i < l.length) : TC 207 [Ac l, AA i] E5 := by
 intro h n
 refine Da Tryz.func207 rfl fun ho => ?_
 have hHb := ho.lt
 obtain ⟨s, hx⟩ : ∃ s, l[i] = s := ⟨_, rfl⟩
 have hps := hs s (by rw [← hx]; exact Kn hi)
 have out : ∀ (e : Int) (m : Nat), CE n h m (AA e) (fun v h' n' => E5 v ∧ h' = h ∧ n' = n) := fun e m => GG ho AB (by simp [closed]) ⟨e, rfl⟩
 obtain ⟨X, hX⟩ : ∃ X : SV, X = .iptr [AA s.id, AA s.kind, .str s.name, AA s.base, AA s.next, Ag s.props] := ⟨_, rfl⟩
 refine AZ 0 [(0, Ac l), (1, AA i)] h n ?_ (fun m hm => ?_)
 · simp [go_sem, Jo]
 refine AZ 1 [(0, Ac l), (1, AA i), (5, X)] h n ?_ (fun m hm => ?_)
 · have hHm : ∀ j y, h j = some y → j < m := fun j y e => by have := hHb j y e; omega
   rw [hX]
   simp [go_sem, Jo, hi, hx, A7.enc, AC]
   exact ⟨by omega, AW (Ad hHm (JO _)) (AC _ _ _), AJ hHm (AJ hHm AB)⟩
 have w1 : 0 < i → IntKind.i64.wrap ((i : Int) - 1) = ((i - 1 : Nat) : Int) := fun g => by rw [DJ] <;> omega
 refine AV 0 (α := Unit) (fun _ => [(0, Ac l), (1, AA i), (5, X)]) (fun _ => h) (fun _ m => n ≤ m) (AX ?_) (fun _ m hm => ?_)
 · refine BO 0 (α := Bx) (fun b => [(0, Ac l), (1, AA i), (5, X), (14, .bool b.b)]) (fun _ => h) (fun _ m => n ≤ m) ?_ (fun b m hm => ?_)
   · rw [hX]
     by_cases a1 : s.id < 1
     · simp [go_sem, Jo, a1, hm]; exact ⟨⟨_⟩, rfl⟩
     · simp [go_sem, Jo, a1, hm]; exact ⟨⟨_⟩, rfl⟩
   obtain ⟨b⟩ := b
   dsimp only
   cases b with
   | true => exact AK (by simp [go_sem]; exact out _ _)
   | false =>
   refine Ap (b := false) (by simp [go_sem]) ?_
   simp only [KC, if_false]
   refine AV 0 (α := Bx) (fun b => [(0, Ac l), (1, AA i), (5, X), (23, .bool b.b)]) (fun _ => h) (fun _ m => n ≤ m) (Bt Q8 rfl (by kernel_rfl) (by kernel_rfl) ?_) (fun b m hm => ?_)
   · rw [hX]
     by_cases a1 : 0 < i
     · have hi1 : i - 1 < l.length := by omega
       simp [go_sem, Q8, Jo, a1, w1, hm, hi1, A7.enc]; exact ⟨⟨_⟩, rfl⟩
     · simp [go_sem, Q8, Jo, a1, hm]; exact ⟨⟨_⟩, rfl⟩
   obtain ⟨b⟩ := b
   dsimp only
   cases b with
   | true => exact AK (by simp [go_sem]; exact out _ _)
   | false =>
   refine Ap (b := false) (by simp [go_sem]) ?_
   simp only [KC, if_false]
   refine AV 0 (α := Bx) (fun b => [(0, Ac l), (1, AA i), (5, X), (37, .bool b.b)]) (fun _ => h) (fun _ m => n ≤ m) (Bt Q8 rfl (by kernel_rfl) (by kernel_rfl) ?_) (fun b m hm => ?_)
   · rw [hX]
     by_cases a1 : 0 < i
     · have hi1 : i - 1 < l.length := by omega
       simp [go_sem, Q8, Jo, a1, w1, hm, hi1, A7.enc]; exact ⟨⟨_⟩, rfl⟩
     · simp [go_sem, Q8, Jo, a1, hm]; exact ⟨⟨_⟩, rfl⟩
   obtain ⟨b⟩ := b
   dsimp only
   cases b with
   | true => exact AK (by simp [go_sem]; exact out _ _)
   | false =>
   refine Ap (b := false) (by simp [go_sem]) ?_
   simp only [KC, if_false]
   refine BO 0 (α := Bx) (fun b => [(0, Ac l), (1, AA i), (5, X), (51, .bool b.b)]) (fun _ => h) (fun _ m => n ≤ m) ?_ (fun b m hm => ?_)
   · rw [hX]
     by_cases a1 : s.kind = 1
     · simp [go_sem, Jo, a1, hm]; exact ⟨⟨_⟩, rfl⟩
     · have a2 : (s.kind != 1) = true := by simpa using a1
       simp [go_sem, Jo, a2, hm]; exact ⟨⟨_⟩, rfl⟩
   obtain ⟨b⟩ := b
   dsimp only
   cases b with
   | true => exact AK (by simp [go_sem]; exact out _ _)
   | false =>
   refine Ap (b := false) (by simp [go_sem]) ?_
   simp only [KC, if_false]
   refine BO 0 (α := Bx) (fun b => [(0, Ac l), (1, AA i), (5, X), (60, .bool b.b)]) (fun _ => h) (fun _ m => n ≤ m) ?_ (fun b m hm => ?_)
   · rw [hX]
     simp [go_sem]
     refine (c266 s.name).use ?_
     simp [go_sem, Jo, hm]
     exact ⟨⟨_⟩, rfl⟩
   obtain ⟨b⟩ := b
   dsimp only
   cases b with
   | true => exact AK (by simp [go_sem]; exact out _ _)
   | false => exact AK (by simp [go_sem, Jo, hm])
 refine Bf 0 [(0, Ac l), (1, AA i), (5, X)] h n ?_ (fun m hm => ?_)
 · refine AV 0 (α := Bx) (fun b => [(0, Ac l), (1, AA i), (5, X), (7, .bool b.b)]) (fun _ => h) (fun _ m => n ≤ m) (Bt trO2 rfl (by kernel_rfl) (by kernel_rfl) ?_) (fun b m hm => ?_)
   · have hle : i ≤ l.length := by omega
     have hc := c267 (l.take i) s.kind s.name (by simp; omega)
     generalize Cp (l.take i) s.kind s.name = k at hc
     generalize (if 0 ≤ k then k else 0) = k1 at hc
     generalize decide (0 ≤ k) = k2 at hc
     simp only [Ac, Zn] at hc
     rw [hX]
     simp [go_sem, trO2, hle, -List.map_take]
     refine Y4 hc ?_
     simp [go_sem, Jo, hm]
     exact ⟨⟨_⟩, rfl⟩
   obtain ⟨b⟩ := b
   dsimp only
   cases b with
   | true => exact AK (by simp [go_sem]; exact out _ _)
   | false => exact AK (by simp [go_sem, Jo, hm])
 refine Bf 0 [(5, X)] h n ?_ (fun m hm => ?_)
 · refine AZ 0 [(5, X), (78, Ag s.props), (79, AA s.props.length), (80, AA 0)] h n ?_ (fun m hm => ?_)
   · rw [hX]; simp [go_sem, Jo, hm]
   refine AX (BX 0 (α := Nat) (fun k => [(5, X), (78, Ag s.props), (79, AA s.props.length), (80, AA k)]) (fun _ => h) (fun k m => k ≤ s.props.length ∧ n ≤ m) (fun k => s.props.length - k) 0 ⟨K2 _, hm⟩ ?_ AB ?_)
   · simp [go_sem, Am, Jo]
   rintro k m ⟨hk, hm⟩
   by_cases hlt : k < s.props.length
   · have w2 := wS k (by omega)
     obtain ⟨p, hp⟩ : ∃ p, s.props[k] = p := ⟨_, rfl⟩
     refine AZ 0 [(5, X), (78, Ag s.props), (79, AA s.props.length), (80, AA k), (81, .bool true)] h n ?_ (fun m hm => ?_)
     · simp [go_sem, Jo, hm, hlt]
     refine AZ 0 [(5, X), (78, Ag s.props), (79, AA s.props.length), (80, AA k)] h n ?_ (fun m hm => ?_)
     · simp [go_sem, Jo, hm]
     refine AV 0 (α := Unit) (fun _ => [(5, X), (78, Ag s.props), (79, AA s.props.length), (80, AA k)]) (fun _ => h) (fun _ m => n ≤ m) (AX ?_) (fun _ m hm => ?_)
     · refine AZ 1 [(5, X), (78, Ag s.props), (79, AA s.props.length), (80, AA k), (9, .iptr [AA p.key, AA p.value])] h n ?_ (fun m hm => ?_)
       · have hHm : ∀ j y, h j = some y → j < m := fun j y e => by have := hHb j y e; omega
         simp [go_sem, Jo, hlt, hp, Eu.enc, AC]
         exact ⟨by omega, AW (Ad hHm (JO _)) (AC _ _ _), AJ hHm (AJ hHm AB)⟩
       refine AK ?_
       by_cases a1 : p.key = 20
       · simp [go_sem, a1]; exact out _ _
       by_cases a2 : p.key = 1
       · simp [go_sem, a2]; exact out _ _
       have a3 : (p.key == 20) = false := by simpa using a1
       have a4 : (p.key == 1) = false := by simpa using a2
       simp [go_sem, a3, a4, Jo, hm]
     · refine AK ?_
       simp [go_sem, w2, Jo, -Int.natCast_add]
       exact ⟨k + 1, by omega, ⟨by omega, hm⟩, rfl⟩
   · refine AK ?_
     simp [go_sem, hlt, Jo, hm]
 refine AV 0 (α := Int) (fun e => [(4, AA e)]) (fun _ => h) (fun _ m => n ≤ m) (Bt trO3 rfl (by kernel_rfl) (by kernel_rfl) ?_) (fun e m hm => ?_)
 · rw [hX]
   simp [go_sem, trO3]
   refine (c268 s.kind).use ?_
   generalize (if s.kind = 1 then (2 : Int) else 1) = el
   simp [go_sem]
   refine (c156 el s.props hps).use ?_
   simp [go_sem, hm]
   exact ⟨_, rfl⟩
 · refine AK ?_
   simp [go_sem]
   exact out _ _
def ChQ (l : List A7) (id : Int) (h : Hp) (n : Nat) : SV → Hp → Nat → Prop := fun v h' n' => ∃ k, v = .fn (.func 270) [] [.iptr [Ac l], .ptr k 0] ∧ n ≤ k ∧ k < n' ∧ h' k = some (.cells [AA id]) ∧ ∀ o y, h o = some y → h' o = some y
theorem d209 (l : List A7) (id : Int) {h : Hp} {n : Nat} : BN Tryz.prog 209 [Ac l, AA id] h n (ChQ l id h n) := by
 refine Da Tryz.func209 rfl fun ho => ?_
 have hHb := ho.lt
 refine Bn 1 [(2, .iptr [Ac l]), (3, .ptr (n + 1) 0)] (hset h (n + 1) (some (.cells [AA id]))) (fun m => n + 1 < m) ?_ (fun m hm => ?_)
 · simp [go_sem, Jo]
   refine ⟨AW (by simp [hset]; exact Ad hHb (JO _)) (by simp [hset]), fun j y => ?_⟩
   have := hHb j y; simp only [hset]; grind
 refine AK ?_
 simp [go_sem]
 exact .inl ⟨n + 1, rfl, by omega, hm, AC _ _ _, AJ (fun j z e => by have := hHb j z e; omega) AB⟩
structure YS (E : By) (yl : Nat) (N : Nat) (J : Nat → Hp → Nat → Prop) (Jx : Hp → Nat → Prop) (D : Nat → Prop) : Prop where
 step : ∀ c (x : A7) h m, J c h m → Ez E Tryz.prog yl [x.enc] h m (fun v h' m' => m ≤ m' ∧ (∀ o, ¬ D o → o < m → h' o = h o) ∧ ((v = .bool true ∧ c + 1 ≤ N ∧ J (c + 1) h' m') ∨ (v = .bool false ∧ Jx h' m')))
 keep : ∀ c h m h' m', J c h m → m ≤ m' → (∀ o, D o → h' o = h o) → J c h' m'
 lt : ∀ c h m, J c h m → ∀ o, D o → o < m
theorem IX {P : Int → Prop} (x : Int) : ∀ (l : List (Int × Int)) (i : Nat), (∀ p ∈ l, P p.2) → C3 (AA x) (GM l) i = some none ∨ ∃ j k, C3 (AA x) (GM l) i = some (some (j, AA k)) ∧ P k
 | [], i, _ => .inl rfl
 | a :: l, i, hP => by
  by_cases e : x = a.1
  · exact .inr ⟨i, a.2, by simp [GM, C3, Gi, e], hP a (by simp)⟩
  · have : (x == a.1) = false := by simpa using e
    rcases IX x l (i + 1) (fun p hp => hP p (by simp [hp])) with h | ⟨j, k, h, hk⟩
    · left; simp only [GM, Y3, C3, Gi, if_true, this]; exact h
    · right; refine ⟨j, k, ?_, hk⟩; simp only [GM, Y3, C3, Gi, if_true, this]; exact h
theorem Qs {P : Int → Prop} (l : List (Int × Int)) (j : Nat) (x v : Int) (hl : ∀ p ∈ l, P p.2) (hv : P v) : ∃ l', HM (GM l) j (AA x) (AA v) = GM l' ∧ ∀ p ∈ l', P p.2 := by
 refine ⟨l.modify j fun _ => (x, v), ?_, fun p hp => ?_⟩
 · unfold HM GM
   apply ZV; intro i; simp only [ZE, Yh]; by_cases e : j = i <;> cases l[i]? <;> simp [e]
 · obtain ⟨i, hi⟩ := UD hp
   rw [ZE] at hi
   cases hli : l[i]? with
   | none => simp [hli] at hi
   | some q =>
    by_cases e : j = i
    · simp [hli, e] at hi; rw [← hi]; exact hv
    · simp [hli, e] at hi; rw [← hi]; exact hl q (YD hli)
section
variable {E : By} {yl N : Nat} {J : Nat → Hp → Nat → Prop} {Jx : Hp → Nat → Prop} {D : Nat → Prop}
def InB (l : List A7) (a : List (Int × Int)) : Prop := ∀ p ∈ a, 0 ≤ p.2 ∧ p.2 < l.length
set_option maxHeartbeats 2000000 in
theorem d270 (Y : YS E yl N J Jx D) (l : List A7) (hl : l.length ≤ 1048576) {H : Hp} {n k : Nat} {id : Int} (hk : H k = some (.cells [AA id])) (hkD : ¬ D k) (hJ : J 0 H n) :
 Ak E Tryz.prog 270 [.fn (.yield yl) [] [], .iptr [Ac l], .ptr k 0] H n (fun _ h' m' => n ≤ m' ∧ (∀ o, ¬ D o → o ≠ k → o < n → h' o = H o) ∧ ((∃ c, J c h' m') ∨ Jx h' m')) := by
 refine Da Tryz.func270 rfl fun ho => ?_
 have hHb := ho.lt
 have hkn : k < n := hHb k _ hk
 have hDn := Y.lt _ _ _ hJ
 have nk : k ≠ n := by omega
 refine Bn 0 [(0, .fn (.yield yl) [] []), (1, .iptr [Ac l]), (2, .ptr k 0), (4, .map n)] (hset H n (some (.map (GM [])))) (fun m => n < m) ?_ (fun m hm => ?_)
 · simp [go_sem, Jo, GM]
 refine AV 0 (α := List (Int × Int)) (fun _ => [(0, .fn (.yield yl) [] []), (1, .iptr [Ac l]), (2, .ptr k 0), (4, .map n)]) (fun a => hset H n (some (.map (GM a)))) (fun a m => n < m ∧ InB l a) ?_ (fun a m hm => ?_)
 · refine Bn 0 [(0, .fn (.yield yl) [] []), (1, .iptr [Ac l]), (2, .ptr k 0), (4, .map n), (10, Ac l), (11, AA l.length), (12, AA 0)] (hset H n (some (.map (GM [])))) (fun m => n < m) ?_ (fun m hm => ?_)
   · simp [go_sem, Jo, hm]
   refine AX (BX 0 (α := Nat × List (Int × Int)) (fun q => [(0, .fn (.yield yl) [] []), (1, .iptr [Ac l]), (2, .ptr k 0), (4, .map n), (10, Ac l), (11, AA l.length), (12, AA q.1)]) (fun q => hset H n (some (.map (GM q.2)))) (fun q m => q.1 ≤ l.length ∧ n < m ∧ InB l q.2) (fun q => l.length - q.1) (0, []) ⟨K2 _, hm, by simp [InB]⟩ ?_ AB ?_)
   · simp [go_sem, Am, Jo]
   rintro ⟨i, a⟩ m ⟨hi, hm, ha⟩
   dsimp only at hi ha ⊢
   by_cases hlt : i < l.length
   · have w1 := wS i (by omega)
     obtain ⟨x, hx⟩ : ∃ x, l[i] = x := ⟨_, rfl⟩
     refine Bn 0 [(0, .fn (.yield yl) [] []), (1, .iptr [Ac l]), (2, .ptr k 0), (4, .map n), (10, Ac l), (11, AA l.length), (12, AA i), (13, .bool true)] (hset H n (some (.map (GM a)))) (fun m => n < m) ?_ (fun m hm => ?_)
     · simp [go_sem, Jo, hm, hlt]
     refine Bn 0 [(0, .fn (.yield yl) [] []), (1, .iptr [Ac l]), (2, .ptr k 0), (4, .map n), (10, Ac l), (11, AA l.length), (12, AA i)] (hset H n (some (.map (GM a)))) (fun m => n < m) ?_ (fun m hm => ?_)
     · simp [go_sem, Jo, hm]
     refine AV 0 (α := List (Int × Int)) (fun _ => [(0, .fn (.yield yl) [] []), (1, .iptr [Ac l]), (2, .ptr k 0), (4, .map n), (10, Ac l), (11, AA l.length), (12, AA i)]) (fun a => hset H n (some (.map (GM a)))) (fun a m => n < m ∧ InB l a) (AX ?_) (fun a m hm => ?_)
     · refine Bn 1 [(0, .fn (.yield yl) [] []), (1, .iptr [Ac l]), (2, .ptr k 0), (4, .map n), (10, Ac l), (11, AA l.length), (12, AA i), (5, AA i), (6, .iptr [AA x.id, AA x.kind, .str x.name, AA x.base, AA x.next, Ag x.props])] (hset H n (some (.map (GM a)))) (fun m => n < m) ?_ (fun m hm => ?_)
       · have hHm : ∀ j y, hset H n (some (.map (GM a))) j = some y → j < m := fun j y e => by
          simp only [hset] at e; split at e
          · omega
          · have := hHb j y e; omega
         simp [go_sem, Jo, hlt, hx, A7.enc, AC]
         exact ⟨by omega, AW (Ad hHm (JO _)) (AC _ _ _), AJ hHm (AJ hHm AB)⟩
       refine AK ?_
       have hB : ∀ v : Int, v = (i : Int) → 0 ≤ v ∧ v < l.length := fun v hv => by omega
       rcases IX (P := fun v => 0 ≤ v ∧ v < l.length) x.id a 0 ha with hf | ⟨j, v, hf, _⟩
       · have hpush : GM a ++ [(AA x.id, AA (i : Int))] = GM (a ++ [(x.id, (i : Int))]) := by simp [GM]
         simp [go_sem, AC, hf, CM, hpush, Jo, Ai]
         refine ⟨a ++ [(x.id, (i : Int))], ⟨hm, fun p hp => ?_⟩, AB⟩
         rcases Kz.1 hp with hp | hp
         · exact ha p hp
         · rw [Yb.1 hp]; exact hB _ rfl
       · obtain ⟨a', h1, h2⟩ := Qs (P := fun v => 0 ≤ v ∧ v < l.length) a j x.id i ha (hB _ rfl)
         have h1' : (GM a).modify j (fun _ => (AA x.id, AA i)) = GM a' := h1
         simp [go_sem, AC, hf, CM, h1', Jo, Ai]
         exact ⟨a', ⟨hm, h2⟩, AB⟩
     · obtain ⟨hm, ha⟩ := hm
       refine AK ?_
       simp [go_sem, w1, Jo, -Int.natCast_add]
       exact ⟨i + 1, by omega, a, ⟨by omega, hm, ha⟩, rfl, AB⟩
   · refine AK ?_
     simp [go_sem, hlt, Jo, hm]
     exact ⟨a, ha, AB⟩
 obtain ⟨hm, ha⟩ := hm
 have hnD : ¬ D n := fun g => by have := hDn n g; omega
 refine AK ?_
 simp [go_sem]
 refine Aq 0 (α := Nat × Int × Hp) (fun _ => [(0, .fn (.yield yl) [] []), (1, .iptr [Ac l]), (2, .ptr k 0), (4, .map n)]) (fun q => q.2.2) (fun q m => n < m ∧ J q.1 q.2.2 m ∧ q.2.2 k = some (.cells [AA q.2.1]) ∧ q.2.2 n = some (.map (GM a)) ∧ ∀ o, ¬ D o → o ≠ k → o < n → q.2.2 o = H o) (fun q => N - q.1)
  (0, id, hset H n (some (.map (GM a)))) ⟨hm, Y.keep _ _ _ _ _ hJ (by omega) fun o g => AD _ _ (by have := hDn o g; omega), (AD _ _ nk).trans hk, AC _ _ _, fun o _ _ g => AD _ _ (by omega)⟩ ?_ AB ?_
 · simp [Am, Jo]
 rintro ⟨c, id, G⟩ m ⟨hm, hJ, hGk, hGn, BV⟩
 dsimp only at hJ hGk hGn BV ⊢
 by_cases h0 : id = 0
 · simp [go_sem, hGk, h0]
   exact .inl ⟨by omega, BV, .inl ⟨c, hJ⟩⟩
 have h0' : (id != 0) = true := by simpa using h0
 rcases IX (P := fun v => 0 ≤ v ∧ v < l.length) id a 0 ha with hf | ⟨j, v, hf, hv1, hv2⟩
 · simp [go_sem, hGk, hGn, h0', hf, CM]
   exact .inl ⟨by omega, BV, .inl ⟨c, hJ⟩⟩
 · have hvl : v.toNat < l.length := by omega
   obtain ⟨x, hx⟩ : ∃ x, l[v.toNat]'hvl = x := ⟨_, rfl⟩
   simp [go_sem, hGk, hGn, h0', hf, CM, hv1, hvl, hx, A7.enc]
   have hy := Y.step c x G m hJ
   simp only [A7.enc] at hy
   refine Ez.mono hy ?_
   rintro w G3 m3 ⟨hm3, hfr, ⟨rfl, hcN, hj⟩ | ⟨rfl, hj⟩⟩
   · have g3k : G3 k = some (.cells [AA id]) := by rw [hfr k hkD (by omega)]; exact hGk
     have g3n : G3 n = some (.map (GM a)) := by rw [hfr n hnD (by omega)]; exact hGn
     simp [go_sem, hv1, hvl, hx, A7.enc, g3k]
     refine ⟨c + 1, by omega, x.base, hset G3 k (some (.cells [AA x.base])), ⟨by omega, Y.keep _ _ _ _ _ hj (JO _) fun o g => AD _ _ (by rintro rfl; exact hkD g), AC _ _ _, by rw [AD _ _ (Ne.symm nk)]; exact g3n, fun o g1 g2 g3 => ?_⟩, AB⟩
     rw [AD _ _ g2, hfr o g1 (by omega)]; exact BV o g1 g2 g3
   · simp [go_sem]
     exact .inl ⟨by omega, fun o g1 g2 g3 => by rw [hfr o g1 (by omega)]; exact BV o g1 g2 g3, .inr hj⟩
end
end Go.Proofs.YtgakninlhfkkmaaGreat.Sh
