/- A part of the proof (part 2 of 13). -/
import Derived.Test.YthinbkgpjmjfeaaGreatDoorN1
import Derived.ArgAppend
import Derived.Tactics
import Derived.TacticsIn
import Derived.OrdersIn
import Derived.RangeFuncSeq
import Derived.RangeFuncLeaves
import Derived.Orders
namespace Go.Proofs.YthinbkgpjmjfeaaGreatDoor.Sh
section
variable {P : Program} {ev : Operand → Value} {o : Oper} {h : Hp} {k : Nat} {c : Cx}
theorem heap_drew (w : World) : w.drew.heap = w.heap := rfl
def Cx.drew (c : Cx) : Cx := { c with w := c.w.drew }
theorem Cx.drew_ext (c : Cx) : Ext c c.drew := ⟨fun _ _ e => e, Nat.le_refl _, fun _ _ h => ⟨h, rfl⟩, fun _ => Nat.le_refl _, rfl, rfl, ⟨rfl, Nat.le_succ _⟩⟩
theorem Rel.drew (R : Rel h c) : Rel h c.drew :=
  ⟨fun o x e => (R.obj o x e).mono c.drew_ext fun _ _ => rfl, R.inj2, R.own2⟩
def Cx.kill (c : Cx) (o : Nat) : Cx := { c with own := fun b => c.own b ∧ ∀ st, c.ρ o ≠ some (b, st) }
theorem Cx.kill_ext (c : Cx) (o : Nat) : Ext c (c.kill o) := ⟨fun _ _ e => e, Nat.le_refl _, fun _ _ h => ⟨fun g => h g.1, rfl⟩, fun _ => Nat.le_refl _, rfl, rfl, ⟨rfl, Nat.le_refl _⟩⟩
theorem Rel.kill (R : Rel h c) (o : Nat) {x : SObj} (ho : h o = some x) (hx2 : x.lst = false := by rfl) : Rel (hset h o none) (c.kill o) := by
  have get : ∀ j y, hset h o none j = some y → j ≠ o ∧ h j = some y := fun j y e => by
    simp only [hset] at e
    split at e
    · cases e
    · exact ⟨by assumption, e⟩
  refine ⟨fun j y e => ?_, fun i j y y' b e1 e2 e3 e4 => ?_, fun b => ?_⟩
  · exact (R.obj j y (get j y e).2).mono (c.kill_ext o) fun _ _ => rfl
  · exact R.inj2 i j y y' b (get i y e1).2 (get j y' e2).2 e3 e4
  · constructor
    · rintro ⟨g1, g2⟩
      obtain ⟨j, y, e1, e2⟩ := (R.own2 b).1 g1
      have hj : j ≠ o := by
        rintro rfl
        rw [ho] at e1; cases e1
        rcases e2 with ⟨st, e2⟩ | ⟨e2, _⟩
        · exact g2 st e2
        · rw [hx2] at e2; cases e2
      exact ⟨j, y, by simp [hset, hj, e1], e2⟩
    · rintro ⟨j, y, e1, e2⟩
      obtain ⟨hj, e1⟩ := get j y e1
      exact ⟨(R.own2 b).2 ⟨j, y, e1, e2⟩, fun st' e' => hj (R.inj2 j o y x b e1 ho e2 (.inl ⟨st', e'⟩))⟩
theorem rel_alloc {cs : List SV} {ty : Option TypeId} {vs : List Value} {arr : Array Value} {e : TypeId} (R : Rel h c) (hk : c.ρ k = none) (hc : All2 (V c) cs vs) (h1 : ∀ x ∈ vs, x.oneCell' = true)
    (ha : ∀ (i : Nat) (x : Value), vs[i]? = some x → arr[i]? = some x) (hty : Ty ty 0 e) : Rel (hset h k (some (.cells cs ty))) (c.alloc k (.cells arr e)) :=
  R.alloc hk ⟨c.w.heap.size, 0, arr, e, vs, by simp [Cx.alloc], by simp [Cx.alloc, heap_alloc], fun i x hx => by simpa using ha i x hx, V2.mono (c.alloc_ext k _ hk) hc, h1, hty⟩
theorem src_of {t2 e2 : TypeId} {z m : Nat} {u : Value} {a : Option Addr} {cap : Nat} {vs : List Value} (h2 : P.underlying t2 = some (.slice e2)) (hu : u = .slice a m cap) (hl : vs.length = m * z)
    (h1 : ∀ x ∈ vs, x.oneCell' = true) (w : World)
    (hc : match a with | some a => (vs ≠ [] → a.spot = none) ∧ ∀ (i : Nat) (x : Value), vs[i]? = some x → w.cell? ⟨a.block, a.off + i, none⟩ = some x | none => m = 0 ∧ cap = 0 ∧ vs = []) : Src P z t2 u m vs w := by
  subst hu
  have hfirst : ∀ w' : World, (∀ b, w'.cell? b = w.cell? b) → (Builtin.firstCells z m (.slice a m cap)).run P w' = .ok vs.toArray w' := fun w' hw => by
    cases a with
    | none => obtain ⟨_, _, rfl⟩ := hc; simp [Builtin.firstCells]
    | some a =>
      have := run_loadCells_list (P := P) w' a vs (fun j v hv => by rw [addr_add' (hc.1 (by rintro rfl; simp at hv)), hw]; exact hc.2 j v hv)
      rw [hl] at this
      simpa [Builtin.firstCells] using this
  exact ⟨.inl ⟨e2, h2⟩, fun w' => by simp [Builtin.lenOf], hfirst w fun _ => rfl, hfirst w.drew fun _ => rfl, hl, h1⟩
theorem obj_move {o' off : Nat} {cs xs ys : List SV} {ty ty' : Option TypeId} {vx : List Value} {b st n : Nat} (R : Rel h c) (hk : c.ρ k = none) (ho : h o' = some (.cells cs ty)) (hty : ∀ t, ty' = some t → off = 0 ∧ ty = some t) (hρ : c.ρ o' = some (b, st))
    (hx : takeN cs off n = some xs) (hroom : st + off + n + vx.length ≤ rm c.w b) (hy : All2 (V c) ys vx) (h1 : ∀ x ∈ vx, x.oneCell' = true) :
    ∃ c' : Cx, c'.w = c.w.setCells b (st + off + n) vx ∧ c'.ρ = (fun j => if j = k then some (b, st + off) else c.ρ j) ∧ Rel (hset (hset h o' none) k (some (.cells (xs ++ ys) ty'))) c' ∧ Ext c c' ∧
      (∀ j, j < vx.length → (c.w.cell? ⟨b, st + off + n + j, none⟩).isSome = true) ∧ (∀ j, j < vx.length → c.w.frozen? ⟨b, st + off + n + j, none⟩ = false) := by
  have hne : o' ≠ k := by rintro rfl; rw [hρ] at hk; cases hk
  have hn := R.none_of hk
  obtain ⟨b', st', arr, e, vs, g1, g2, g3, g4, g5, g6⟩ := R.obj _ _ ho
  rw [hρ] at g1; cases g1
  obtain ⟨hle, rfl⟩ := takeN_some hx
  have hrm : rm c.w b = arr.size := by simp [rm, g2]
  rw [hrm] at hroom
  have hlen := g4.length
  have hcells : ∀ j, j < vx.length → (c.w.cell? ⟨b, st + off + n + j, none⟩).isSome = true := fun j hj => by
    simp only [World.cell?, g2]; rw [Array.getElem?_eq_getElem (by omega)]; rfl
  have hfro : ∀ j, c.w.frozen? ⟨b, st + off + n + j, none⟩ = false := fun j => by simp [World.frozen?, g2]
  have r1 := run_storeCells_cells (P := default) b (st + off + n) vx 0 c.w (by simpa using hcells) (by simpa using fun j _ => hfro j) h1
  have r2 := run_storeCells_at (P := default) b (st + off + n) e vx 0 arr c.w g2 (by omega) h1
  rw [r1] at r2
  simp only [Nat.add_zero, Result.ok.injEq, true_and] at r2
  have hnew := setRow_heap c.w b arr (arr.toList.take (st + off + n) ++ vx ++ arr.toList.drop (st + off + n + vx.length)).toArray e (0, 0) g2
  rw [← r2] at hnew
  have hoth : ∀ b', b' ≠ b → (c.w.setCells b (st + off + n) vx).heap[b']? = c.w.heap[b']? := fun b' hb => by rw [r2]; exact setRow_other _ _ _ hb
  have hsz : (c.w.setCells b (st + off + n) vx).heap.size = c.w.heap.size := by rw [r2]; exact setRow_size _ _ _
  refine ⟨{ ρ := fun j => if j = k then some (b, st + off) else c.ρ j, own := c.own, w := c.w.setCells b (st + off + n) vx, bk := c.bk }, rfl, rfl, ?_⟩
  have E : Ext c { ρ := fun j => if j = k then some (b, st + off) else c.ρ j, own := c.own, w := c.w.setCells b (st + off + n) vx, bk := c.bk } := by
    refine ⟨fun j p ej => ?_, by simp [hsz], fun b' hb' hno => ⟨hno, hoth b' ?_⟩, fun b' => ?_, by rw [r2]; rfl, by rw [r2]; rfl, by rw [r2]; exact ⟨rfl, Nat.le_refl _⟩⟩
    · simp only
      split
      · subst_vars; rw [hk] at ej; cases ej
      · exact ej
    · rintro rfl; exact hno (R.ownI ⟨o', _, st, ho, hρ⟩)
    · by_cases eb : b' = b
      · subst eb
        simp only [rm, g2, hnew]
        simp; omega
      · simp [rm, hoth b' eb]
  have get : ∀ j y, hset (hset h o' none) k (some (.cells ((cs.drop off).take n ++ ys) ty')) j = some y → (j = k ∧ y = .cells ((cs.drop off).take n ++ ys) ty') ∨ (j ≠ k ∧ j ≠ o' ∧ h j = some y) := fun j y e => by
    simp only [hset] at e
    split at e
    · cases e; exact .inl ⟨by assumption, rfl⟩
    · split at e
      · cases e
      · exact .inr ⟨by assumption, by assumption, e⟩
  have hne' : ∀ j y b', j ≠ k → hold { ρ := fun j => if j = k then some (b, st + off) else c.ρ j, own := c.own, w := c.w.setCells b (st + off + n) vx, bk := c.bk } j y b' → hold c j y b' := fun j y b' hj H => by
    simp only [hold, hj, if_false] at H; exact H
  have hat' : ∀ b', hold { ρ := fun j => if j = k then some (b, st + off) else c.ρ j, own := c.own, w := c.w.setCells b (st + off + n) vx, bk := c.bk } k (.cells ((cs.drop off).take n ++ ys) ty') b' → b' = b := fun b' H => by
    rcases H with ⟨st', H⟩ | ⟨H, _⟩
    · simp only [if_true] at H; cases H; rfl
    · cases H
  refine ⟨⟨fun j y ej => ?_, fun i j y y' b1 e1 e2 e3 e4 => ?_, fun b' => ?_⟩, E, hcells, fun j _ => hfro j⟩
  · simp only [hset] at ej
    split at ej
    · subst_vars; cases ej
      refine ⟨b, st + off, _, e, (vs.drop off).take n ++ vx, by simp, hnew, fun i x hx => ?_, All2.append (V2.mono E ((g4.drop off).take n)) (V2.mono E hy), fun x hx => ?_, fun t e1 => ?_⟩
      · have hvl : ((vs.drop off).take n).length = n := by simp; omega
        simp only [List.getElem?_toArray, List.append_assoc]
        have eA : (arr.toList.take (st + off + n)).length = st + off + n := by simp; omega
        by_cases hi : i < n
        · rw [List.getElem?_append_left (by omega)] at hx ⊢
          rw [List.getElem?_take, if_pos hi, List.getElem?_drop] at hx
          rw [List.getElem?_take, if_pos (by omega)]
          have := g3 _ _ hx
          rw [Nat.add_assoc]; simpa using this
        · rw [List.getElem?_append_right (by omega), hvl] at hx
          have hi2 := (List.getElem?_eq_some_iff.1 hx).1
          rw [List.getElem?_append_right (by omega), eA, List.getElem?_append_left (by omega), show st + off + i - (st + off + n) = i - n by omega]
          exact hx
      · rcases List.mem_append.1 hx with hx | hx
        · exact g5 x (List.mem_of_mem_drop (List.mem_of_mem_take hx))
        · exact h1 x hx
      · obtain ⟨q1, q2⟩ := hty t e1
        obtain ⟨q3, q4⟩ := g6 t q2
        exact ⟨by omega, q4⟩
    · split at ej
      · cases ej
      · rename_i hj1 hj2
        refine (R.obj j y ej).mono E fun b2 e' => hoth b2 ?_
        rintro rfl
        exact hj2 (R.inj2 j o' y _ b2 ej ho e' (.inl ⟨st, hρ⟩))
  · rcases get i y e1 with ⟨rfl, rfl⟩ | ⟨hi, hio, f1⟩
    · rcases get j y' e2 with ⟨rfl, rfl⟩ | ⟨hj, hjo, f2⟩
      · rfl
      · have := hat' _ e3
        subst this
        exact absurd (R.inj2 j o' y' _ b1 f2 ho (hne' j y' b1 hj e4) (.inl ⟨st, hρ⟩)) hjo
    · rcases get j y' e2 with ⟨rfl, rfl⟩ | ⟨hj, hjo, f2⟩
      · have := hat' _ e4
        subst this
        exact absurd (R.inj2 i o' y _ b1 f1 ho (hne' i y b1 hi e3) (.inl ⟨st, hρ⟩)) hio
      · exact R.inj2 i j y y' b1 f1 f2 (hne' i y b1 hi e3) (hne' j y' b1 hj e4)
  · rw [R.own2 b']
    constructor
    · rintro ⟨j, y, e1, e2⟩
      have hj : j ≠ k := by rintro rfl; rw [hn] at e1; cases e1
      by_cases hjo : j = o'
      · subst hjo
        rw [ho] at e1; cases e1
        rcases e2 with ⟨s, e2⟩ | ⟨e2, _⟩
        · rw [hρ] at e2; cases e2
          exact ⟨k, _, by simp [hset]; rfl, .inl ⟨st + off, by simp⟩⟩
        · cases e2
      · exact ⟨j, y, by simp [hset, hj, hjo, e1], by simpa [hold, hj] using e2⟩
    · rintro ⟨j, y, e1, e2⟩
      rcases get j y e1 with ⟨rfl, rfl⟩ | ⟨hj, hjo, e1⟩
      · rw [hat' _ e2]; exact ⟨o', _, ho, .inl ⟨st, hρ⟩⟩
      · exact ⟨j, y, e1, hne' j y b' hj e2⟩
theorem append_get {xs ys : List Value} {zs : Array Value} (i : Nat) (x : Value) (hx : (xs ++ ys)[i]? = some x) : ((xs ++ ys).toArray ++ zs)[i]? = some x := by
  have hi := (List.getElem?_eq_some_iff.1 hx).1
  rw [Array.getElem?_append_left (by simpa using hi)]
  simpa using hx
theorem run_append_make (w : World) (t tx ty e : TypeId) (ik : IntKind) (i : TypeInfo) (z : Value) (ht : P.underlying t = some (.slice e)) (htx : P.underlying tx = some (.int ik)) (hi : P.info? e = some i) (hz : i.zero = some z)
    (base : Option Addr) (n : Nat) (hn : 0 < n) (hs : i.size ≠ 0) (h1 : n ≤ 1073741824) (hb : i.bytes ≤ 65536) :
    (Builtin.append_ #[t, tx] ty #[.slice base 0 0, .int .i64 n]).run P w =
      .ok (.slice (some ⟨w.heap.size, 0, none⟩) n (grownCap w n 0 e)) (w.drew.alloc (.cells (Builtin.zeroCells z.cells n ++ Builtin.zeroCells z.cells (grownCap w n 0 e - n)) e)) := by
  have hw : IntKind.i64.wrap (n : Int) = n := by rw [IntKind.wrap_i64]; omega
  have hmul : n * i.bytes ≤ 1073741824 * 65536 := Nat.mul_le_mul h1 hb
  have hmul' : ¬ (281474976710656 < (n : Int) * (i.bytes : Int)) := by
    have : ((n * i.bytes : Nat) : Int) ≤ 1073741824 * 65536 := by omega
    rw [Int.natCast_mul] at this; omega
  have hcap : Builtin.nextslicecap n 0 = n := by unfold Builtin.nextslicecap; rw [if_pos (by omega)]
  have h48 : ¬ (281474976710656 < n * i.bytes) := by omega
  have hnn : ¬ ((n : Int) < 0) := by omega
  have hmx : max (n : Int) 0 = n := by omega
  have hn0 : n ≠ 0 := by omega
  have h63 : ¬ (9223372036854775807 < (n : Int)) := by omega
  have hns : n * i.size ≠ 0 := Nat.mul_ne_zero hn0 hs
  have hf : (Builtin.firstCells i.size 0 (.slice base 0 0)).run P w.drew = .ok #[] w.drew := by
    cases base with
    | none => simp [Builtin.firstCells]
    | some a =>
      have := run_loadCells_list (P := P) w.drew a [] (by simp)
      simpa [Builtin.firstCells] using this
  simp [Builtin.append_, run_underlying ht, run_underlying htx, sizeOf, typeInfo, zeroValue, hi, hz, hw, hmul', hnn, hn0, hcap, h48, h63, Question.forced, newRow, grownCap, asInt, asIntOf, hf, hmx, hns]
theorem good_make {t t2 : TypeId} {s x : SV} {us ux : Value} {out : Out} (hrun : ∀ (w w' : World) (r : Value), (∀ cs, (builtin Builtin.append #[t, t2] o.type cs #[us, ux]).run P w = .ok (.value r) w') → (execOp ev o).run P w = .ok (.value r) w')
    (hs : appendMake P k t t2 s x = some out) (R : Rel h c) (hk : c.ρ k = none) (hvs : V c s us) (hvx : V c x ux) : Good P ev o h k c out := by
  unfold appendMake at hs
  split at hs <;> try cases hs
  rename_i e ik z0 m hte ht2
  split at hs <;> try cases hs
  rename_i hc
  obtain ⟨⟨hm0, hm1⟩, hz0, hby, hst, hzl⟩ := hc
  have hu := tslice_some hte
  obtain ⟨ii, hi, hsz⟩ := tsz_pos hz0
  obtain ⟨i', z, hi', hzz, hze⟩ := tzero_storable hst
  rw [hi] at hi'; cases hi'
  have hvz := V_ofValue c z
  rw [← hze] at hvz
  have hzsize : z.cells.size = tsz P e := by have := (hvz.cells hst).1.length; simp at this; omega
  have hbb : ii.bytes ≤ 65536 := by have : tbytes P e = ii.bytes := by simp [tbytes, Program.bytesOf, hi]
                                    omega
  obtain ⟨base, rfl⟩ : ∃ base, us = .slice base 0 0 := by
    rw [V] at hvs
    rcases hvs with ⟨_, rfl⟩ | ⟨a2, cap2, vs2, e2, _, hf, _⟩
    · exact ⟨none, rfl⟩
    · have := hf rfl; exact ⟨_, by rw [e2, this]; rfl⟩
  have hux : ux = .int .i64 m := by rw [V] at hvx; exact hvx
  subst hux
  obtain ⟨zr, z1⟩ := zeros_rel hvz hst m.toNat
  have hmn : (m.toNat : Int) = m := by omega
  have hr := run_append_make (P := P) c.w t t2 o.type e ik ii z hu ht2 hi hzz base m.toNat (by omega) (by omega) (by omega) hbb
  rw [hmn] at hr
  have hcell := range_zeros z.cells (by omega) m.toNat
  have Rn := rel_alloc (e := e) (arr := Builtin.zeroCells z.cells m.toNat ++ Builtin.zeroCells z.cells (grownCap c.w m.toNat 0 e - m.toNat)) R.drew (by exact hk) (V2.mono c.drew_ext zr) z1
    (fun i x hx => by
      have : (Builtin.zeroCells z.cells m.toNat).toList = (List.replicate m.toNat z.cells.toList).flatten := hcell
      rw [← this] at hx
      have hlt := (List.getElem?_eq_some_iff.1 hx).1
      rw [Array.getElem?_append_left (by simpa using hlt)]
      simpa using hx) Ty.none
  have En := c.drew_ext.trans (c.drew.alloc_ext k (.cells (Builtin.zeroCells z.cells m.toNat ++ Builtin.zeroCells z.cells (grownCap c.w m.toNat 0 e - m.toNat)) e) (by exact hk))
  have hcap : m.toNat ≤ grownCap c.w m.toNat 0 e := by unfold grownCap; exact Nat.le_add_right _ _
  refine ⟨.slice (some ⟨c.w.heap.size, 0, none⟩) m.toNat (grownCap c.w m.toNat 0 e), _, .inl (hrun _ _ _ fun cs => by simp only [builtin, Sem.run_bind, hr, Result.andThen_ok, Sem.run_pure]; rfl), ?_, Rn, En, fun j hj => ?_⟩
  · rw [V]
    refine ⟨c.w.heap.size, 0, grownCap c.w m.toNat 0 e, by simp [Cx.alloc, Cx.drew, heap_drew], by simp, hcap, by simp, ?_⟩
    have e6 : m.toNat * tsz P e + (grownCap c.w m.toNat 0 e - m.toNat) * tsz P e = grownCap c.w m.toNat 0 e * tsz P e := by rw [← Nat.add_mul]; congr 1; omega
    have e7 : rm (c.drew.alloc k (.cells (Builtin.zeroCells z.cells m.toNat ++ Builtin.zeroCells z.cells (grownCap c.w m.toNat 0 e - m.toNat)) e)).w c.w.heap.size =
        (Builtin.zeroCells z.cells m.toNat ++ Builtin.zeroCells z.cells (grownCap c.w m.toNat 0 e - m.toNat)).size := by
      simp [rm, Cx.alloc, Cx.drew, heap_alloc, heap_drew]
    rw [e7]
    simp only [Array.size_append, Builtin.zeroCells, Array.size_map, Array.size_range, hzsize]
    omega
  · simp at hj; simp [Cx.alloc, Cx.drew, hj]
theorem good_append {ts : Array TypeId} {args : Array Operand} {out : Out} {evs : Operand → SV} (ho : o.op = .call { callee := .builtin .append, args := args, argTypes := ts })
    (hs : builtinS P h k .append ts.toList (args.toList.map evs) = some out) (R : Rel h c) (hk : c.ρ k = none) (H : All2 (V c) (args.toList.map evs) (args.map ev).toList) : Good P ev o h k c out := by
  generalize hA : args.toList.map evs = A at hs H
  generalize hU : args.map ev = U at H
  have hrun := fun (w w' : World) (r : Value) => run_builtin (P := P) (ev := ev) ho w w' r
  rw [hU] at hrun
  simp only [builtinS] at hs
  split at hs <;> try (first | contradiction | (cases hs; done))
  rename_i t t2 s x _ e1
  match hU' : U.toList, H with
  | [us, ux], H =>
    have e1' := args2 e1
    have e2' := args2 hU'
    have hvs := H.1
    have hvx := H.2.1
    subst e1'
    subst e2'
    have core : ∀ (e : TypeId) (m : Nat) (ys : List SV) (vx : List Value), tslice P t = some e → tsz P e ≠ 0 → (tzero P e).storable = true → (tzero P e).cells.length = tsz P e → zOk (tsz P e) s = true → All2 (V c) ys vx →
        (∀ x ∈ vx, x.oneCell' = true) → vx.length = m * tsz P e → (∀ w : World, w.heap = c.w.heap → Src P (tsz P e) t2 ux m vx w) → appC P h k e s m ys = some out → Good P ev o h k c out := by
      clear hs
      intro e m ys vx hte hz0 hst hzl hz1 hxc hx1 hxl src hs
      have hu := tslice_some hte
      unfold appC at hs
      obtain ⟨ii, hi, hsz⟩ := tsz_pos hz0
      obtain ⟨i', z, hi', hzz, hze⟩ := tzero_storable hst
      rw [hi] at hi'; cases hi'
      have hvz := V_ofValue c z
      rw [← hze] at hvz
      have hzsize : z.cells.size = tsz P e := by have := (hvz.cells hst).1.length; simp at this; omega
      have grown : ∀ (c0 : Cx) (h0 : Hp) (base : Option Addr) (sLen sCap : Nat) (xs : List SV) (vs : List Value), c0.w = c.w → c0.ρ = c.ρ → Rel h0 c0 → Ext c c0 → us = .slice base sLen sCap → All2 (V c0) xs vs →
          (∀ x ∈ vs, x.oneCell' = true) → vs.length = sLen * tsz P e →
          (match base with | some a => (vs ≠ [] → a.spot = none) ∧ ∀ (i : Nat) (x : Value), vs[i]? = some x → c.w.cell? ⟨a.block, a.off + i, none⟩ = some x | none => sLen = 0 ∧ sCap = 0 ∧ vs = []) → sCap < sLen + m →
          roomy (sLen + m) (tbytes P e) = true → ∀ ty : Option TypeId, Ty ty 0 e → ∀ upd : Option (Nat × Option SObj), (match upd with | some (j, x) => hset h j x | none => h) = h0 →
          Good P ev o h k c { val := .sl k 0 (tsz P e) (sLen + m) false, upd := upd, new := some (.cells (xs ++ ys) ty) } := by
        intro c0 h0 base sLen sCap xs vs hw hρ R0 E0 hus hc h1 hl ha hlt hroom ty hty upd hupd
        simp only [roomy, Bool.and_eq_true, decide_eq_true_eq] at hroom
        have hby : tbytes P e = ii.bytes := by simp [tbytes, Program.bytesOf, hi]
        have hmul : (sLen + m) * ii.bytes ≤ 1073741824 * 65536 := Nat.mul_le_mul hroom.1 (by omega)
        have hold : (Builtin.firstCells ii.size sLen (.slice base sLen sCap)).run P c.w.drew = .ok vs.toArray c.w.drew := by
          cases base with
          | none => obtain ⟨_, _, rfl⟩ := ha; simp [Builtin.firstCells]
          | some a =>
            have := run_loadCells_list (P := P) c.w.drew a vs (fun j v hv => by rw [addr_add' (ha.1 (by rintro rfl; simp at hv))]; exact ha.2 j v hv)
            rw [hl, hsz] at this
            simpa [Builtin.firstCells] using this
        have hr := run_append_grow_src (P := P) c.w t t2 o.type e ii z hu hi hzz base sLen sCap vs hold ux m vx (by rw [← hsz]; exact src c.w rfl) hlt (by omega) (growslice_fits hlt (by omega))
        rw [← hus] at hr
        have hk0 : c0.drew.ρ k = none := by show c0.ρ k = none; rw [hρ]; exact hk
        have Rn := rel_alloc (e := e) (arr := (vs ++ vx).toArray ++ Builtin.zeroCells z.cells (grownCap c.w (sLen + m) sCap e - (sLen + m))) R0.drew hk0 (All2.append (V2.mono c0.drew_ext hc) (V2.mono (E0.trans c0.drew_ext) hxc))
          (fun x hx => by rcases List.mem_append.1 hx with hx | hx; exact h1 x hx; exact hx1 x hx) append_get hty
        have En := E0.trans (c0.drew_ext.trans (c0.drew.alloc_ext k (.cells ((vs ++ vx).toArray ++ Builtin.zeroCells z.cells (grownCap c.w (sLen + m) sCap e - (sLen + m))) e) hk0))
        have hw' : (c0.drew.alloc k (.cells ((vs ++ vx).toArray ++ Builtin.zeroCells z.cells (grownCap c.w (sLen + m) sCap e - (sLen + m))) e)).w =
            c.w.drew.alloc (.cells ((vs ++ vx).toArray ++ Builtin.zeroCells z.cells (grownCap c.w (sLen + m) sCap e - (sLen + m))) e) := by
          show (c0.w.drew.alloc _) = _
          rw [hw]
        have hcap : sLen + m ≤ grownCap c.w (sLen + m) sCap e := by unfold grownCap; exact Nat.le_add_right _ _
        subst hupd
        refine ⟨.slice (some ⟨c.w.heap.size, 0, none⟩) (sLen + m) (grownCap c.w (sLen + m) sCap e), _, .inl (by rw [hw']; exact hrun _ _ _ fun cs => by simp only [builtin, Sem.run_bind, hr, Result.andThen_ok, Sem.run_pure]), ?_, Rn, En, fun j hj => ?_⟩
        · rw [V]
          refine ⟨c.w.heap.size, 0, grownCap c.w (sLen + m) sCap e, by simp [Cx.alloc, Cx.drew, hw], rfl, hcap, by simp, ?_⟩
          have hx2 := hxl
          have e5 : (vs ++ vx).length = (sLen + m) * tsz P e := by simp [hl, hx2, Nat.add_mul]
          have e6 : (sLen + m) * tsz P e + (grownCap c.w (sLen + m) sCap e - (sLen + m)) * tsz P e = grownCap c.w (sLen + m) sCap e * tsz P e := by rw [← Nat.add_mul]; congr 1; omega
          have e7 : rm (c0.drew.alloc k (.cells ((vs ++ vx).toArray ++ Builtin.zeroCells z.cells (grownCap c.w (sLen + m) sCap e - (sLen + m))) e)).w c.w.heap.size =
              ((vs ++ vx).toArray ++ Builtin.zeroCells z.cells (grownCap c.w (sLen + m) sCap e - (sLen + m))).size := by
            rw [hw']; simp [rm, heap_alloc, heap_drew]
          rw [e7]
          simp only [Array.size_append, List.size_toArray, e5, Builtin.zeroCells, Array.size_map, Array.size_range, hzsize]
          omega
        · simp at hj; simp [Cx.alloc, Cx.drew, hρ, hj]
      by_cases hm0 : m = 0
      · subst hm0
        simp only [if_true, yes, Option.some.injEq] at hs
        subst hs
        have hx0 : vx = [] := by have := hxl; simpa using this
        subst hx0
        obtain ⟨base, sLen, sCap, rfl, hle⟩ : ∃ base sLen sCap, us = .slice base sLen sCap ∧ sLen ≤ sCap := by
          cases s <;> simp only [zOk] at hz1 <;> try cases hz1
          · rw [V] at hvs; obtain ⟨b, st, cap, _, rfl, h1, _⟩ := hvs; exact ⟨_, _, _, rfl, h1⟩
          · rw [V] at hvs
            rcases hvs with ⟨_, rfl⟩ | ⟨a, cap, vs, rfl, h1, _⟩
            · exact ⟨none, 0, 0, rfl, Nat.le_refl _⟩
            · exact ⟨_, _, _, rfl, h1⟩
          · rw [V] at hvs; exact ⟨none, 0, 0, hvs, Nat.le_refl _⟩
        have hr := run_append_nothing (P := P) c.w t t2 o.type e ii hu hi base sLen sCap hle ux (by rw [← hsz]; exact src c.w rfl)
        exact good_same R _ (hrun _ _ _ fun cs => by simp [builtin, hr]) hvs
      · rw [if_neg hm0] at hs
        split at hs
        · rename_i z' es _
          split at hs <;> try cases hs
          rename_i hroom
          obtain ⟨a, cap, vs, hus, hcap, hc, h1, hvz', ha⟩ := flat_rel (n := es.length) R (by rfl : flat h (.imm z' es true) = some (es.flatMap SV.cells)) rfl hvs
          have hcl : cap = es.length := by
            rw [V] at hvs
            rcases hvs with ⟨rfl, e2⟩ | ⟨a2, cap2, vs2, e2, _, hf, _⟩
            · rw [hus] at e2; cases e2; rfl
            · rw [hus] at e2; cases e2; exact hf rfl
          exact grown c h a es.length cap _ vs rfl rfl R (Ext.refl c) hus hc h1 (hvz' _ hz1) ha (by omega) hroom _ Ty.row none rfl
        · split at hs <;> try cases hs
          rename_i hroom
          rw [V] at hvs
          have := grown c h none 0 0 [] [] rfl rfl R (Ext.refl c) hvs trivial (by simp) (by simp) ⟨rfl, rfl, rfl⟩ (by omega) (by simpa using hroom) _ Ty.row none rfl
          simpa using this
        · rename_i o' off z' len full _
          split at hs <;> try cases hs
          rename_i xs hxs
          split at hs <;> try cases hs
          rename_i hroom
          obtain ⟨a, cap, vs, hus, hcap, hc, h1, hvz', ha⟩ := flat_rel (n := len) R hxs rfl hvs
          have hvs' := hvs
          rw [V] at hvs'
          obtain ⟨b, st, cap', hρ, hus', hcap', hfull, hrm⟩ := hvs'
          rw [hus] at hus'
          cases hus'
          obtain ⟨cs, ty, hob, hxs'⟩ : ∃ cs ty, h o' = some (.cells cs ty) ∧ takeN cs off (len * z') = some xs := by
            simp only [flat] at hxs
            split at hxs
            · rename_i cs ty hob; exact ⟨cs, ty, hob, hxs⟩
            · cases hxs
          have hzz' : z' = tsz P e := by simpa [zOk] using hz1
          subst hzz'
          cases full with
          | true => exact grown c h _ len cap _ vs rfl rfl R (Ext.refl c) hus hc h1 (hvz' _ hz1) ha (by have := hfull rfl; omega) hroom _ (fun t g => ⟨rfl, (Ty.app g).2.2⟩) none rfl
          | false =>
            by_cases hfit : len + m ≤ cap
            · have hx2 := hxl
              have e6 : len * tsz P e + m * tsz P e ≤ cap * tsz P e := by rw [← Nat.add_mul]; exact Nat.mul_le_mul_right _ hfit
              obtain ⟨c', hw', hρ', R', E', hcl, hfr⟩ := obj_move (k := k) (ty' := tyApp h e o' off) R hk hob (fun t g => ⟨(Ty.app g).1, by have := (Ty.app g).2.1; rw [hob] at this; exact this⟩) hρ hxs' (by omega) hxc hx1
              have hr := run_append_room_src (P := P) c.w t t2 o.type e ii hu hi b (st + off) len cap ux m vx (by rw [← hsz]; exact src c.w rfl) hfit (by rw [← hsz]; exact hcl) (by rw [← hsz]; exact hfr)
              rw [← hus, ← hsz, ← hw'] at hr
              refine ⟨.slice (some ⟨b, st + off, none⟩) (len + m) cap, c', .inl (hrun _ _ _ fun cs => by simp only [builtin, Sem.run_bind, hr, Result.andThen_ok, Sem.run_pure]), ?_, by simpa [Out.app] using R', E', fun j hj => ?_⟩
              · rw [V]
                exact ⟨b, st + off, cap, by rw [hρ']; simp, by simp, hfit, by simp, Nat.le_trans hrm (E'.room b)⟩
              · simp at hj; rw [hρ']; simp [hj]
            · exact grown (c.kill o') (hset h o' none) _ len cap _ vs rfl rfl (R.kill o' hob) (c.kill_ext o') hus (V2.mono (c.kill_ext o') hc) h1 (hvz' _ hz1) ha (by omega) hroom _ (fun t g => ⟨rfl, (Ty.app g).2.2⟩) (some (o', none)) rfl
        · cases hs
    split at hs
    · rename_i ht2
      obtain ⟨et2, ht2⟩ := tsome ht2
      unfold appendS at hs
      split at hs <;> try cases hs
      rename_i e hte
      simp only at hs
      split at hs <;> try cases hs
      rename_i m ys hm hys
      split at hs <;> try cases hs
      rename_i hchk
      simp only [Bool.not_eq_true', Bool.not_eq_false, Bool.and_eq_true, bne_iff_ne, ne_eq, beq_iff_eq] at hchk
      obtain ⟨⟨⟨⟨hz1, hz2⟩, hz0⟩, hst⟩, hzl⟩ := hchk
      obtain ⟨ax, capx, vx, hux, hcapx, hxc, hx1, hxz, hxa⟩ := flat_rel R hys hm hvx
      have src : ∀ w : World, w.heap = c.w.heap → Src P (tsz P e) t2 ux m vx w := fun w hw =>
        src_of (tslice_some ht2) hux (hxz _ hz2) hx1 w (by
          revert hxa; cases ax <;> simp only <;> intro hxa
          · exact hxa
          · refine ⟨hxa.1, fun i x hx => ?_⟩
            have := hxa.2 i x hx
            simp only [World.cell?, hw] at *; exact this)
      exact core e m ys vx hte hz0 hst hzl hz1 hxc hx1 (hxz _ hz2) src hs
    · split at hs
      · rename_i hts
        unfold appendStr at hs
        split at hs <;> try cases hs
        rename_i e b hte _
        split at hs <;> try cases hs
        rename_i hchk
        simp only [Bool.not_eq_true', Bool.not_eq_false, Bool.and_eq_true, beq_iff_eq] at hchk
        obtain ⟨⟨⟨hz1, hz2⟩, hst⟩, hzl⟩ := hchk
        have hux := vstr hvx
        subst hux
        have hall : ∀ l : List UInt8, All2 (V c) (l.map fun b => SV.int .u8 b.toNat) (l.map fun b => Value.int .u8 b.toNat) := fun l => by
          induction l with
          | nil => trivial
          | cons a l ih => exact ⟨by simp [V], ih⟩
        refine core e b.size (bytesC b) (byteCells b) hte (by omega) hst hzl hz1 (hall _) (fun u hu => ?_) (by rw [byteCells_length, hz2, Nat.mul_one]) (fun w _ => by rw [hz2]; exact Src.ofString w (tstring_some hts) b) hs
        obtain ⟨_, _, rfl⟩ := List.mem_map.1 hu
        rfl
      · exact good_make (fun w w' r h => hrun w w' r h) hs R hk hvs hvx
  | [], H => exact H.elim
  | [_], H => exact H.2.elim
  | _ :: _ :: _ :: _, H => exact H.2.2.elim
end
section
variable {P : Program} {ev : Operand → Value} {o : Oper} {h : Hp} {k : Nat} {c : Cx}
theorem run_first {z n m cap : Nat} {a : Option Addr} {vs : List Value} (hm : m ≤ n) (hl : vs.length = n * z) (w : World)
    (hc : match a with | some a => (vs ≠ [] → a.spot = none) ∧ ∀ (i : Nat) (x : Value), vs[i]? = some x → w.cell? ⟨a.block, a.off + i, none⟩ = some x | none => n = 0 ∧ cap = 0 ∧ vs = []) :
    (Builtin.firstCells z m (.slice a n cap)).run P w = .ok (vs.take (m * z)).toArray w := by
  cases a with
  | none => obtain ⟨_, _, rfl⟩ := hc; simp [Builtin.firstCells]
  | some a =>
    have hmz : m * z ≤ n * z := Nat.mul_le_mul_right _ hm
    have := run_loadCells_list (P := P) w a (vs.take (m * z)) (fun j v hv => by
      rw [addr_add' (hc.1 (by rintro rfl; simp at hv))]
      rw [List.getElem?_take] at hv
      split at hv
      · exact hc.2 j v hv
      · cases hv)
    rw [List.length_take, Nat.min_eq_left (by omega)] at this
    simpa [Builtin.firstCells] using this
theorem dst_rel {s : SV} {u : Value} {n : Nat} (hn : lenS s = some n) (hs : ∀ x, s ≠ .str x) (hv : V c s u) : ∃ a cap, u = .slice a n cap ∧ n ≤ cap := by
  cases s <;> simp only [lenS] at hn <;> try cases hn
  · exact absurd rfl (hs _)
  · rw [V] at hv; obtain ⟨b, st, cap, _, rfl, h1, _⟩ := hv; exact ⟨_, _, rfl, h1⟩
  · rw [V] at hv
    rcases hv with ⟨rfl, rfl⟩ | ⟨a, cap, vs, rfl, h1, _⟩
    · exact ⟨_, _, rfl, Nat.le_refl _⟩
    · exact ⟨_, _, rfl, h1⟩
  · rw [V] at hv; exact ⟨_, _, hv, Nat.le_refl _⟩
theorem good_copy {ts : Array TypeId} {args : Array Operand} {out : Out} {evs : Operand → SV} (ho : o.op = .call { callee := .builtin .copy, args := args, argTypes := ts })
    (hs : builtinS P h k .copy ts.toList (args.toList.map evs) = some out) (R : Rel h c) (H : All2 (V c) (args.toList.map evs) (args.map ev).toList) : Good P ev o h k c out := by
  generalize hA : args.toList.map evs = A at hs H
  generalize hU : args.map ev = U at H
  have hrun := fun (w w' : World) (r : Value) => run_builtin (P := P) (ev := ev) ho w w' r
  rw [hU] at hrun
  simp only [builtinS] at hs
  split at hs <;> try (first | contradiction | (cases hs; done))
  rename_i t t2 s x _ e1
  match hU' : U.toList, H with
  | [us, ux], H =>
    have e1' := args2 e1
    have e2' := args2 hU'
    subst e1'
    subst e2'
    have hvs := H.1
    have hvx := H.2.1
    unfold copyS at hs
    split at hs <;> try cases hs
    rename_i e dl m ys hte hdl hm hys
    have hu := tslice_some hte
    simp only at hs
    split at hs <;> try cases hs
    rename_i hchk
    simp only [Bool.not_eq_true', Bool.not_eq_false, Bool.and_eq_true, bne_iff_ne, ne_eq] at hchk
    obtain ⟨⟨hz1, hz2⟩, hz0⟩ := hchk
    obtain ⟨ii, hi, hsz⟩ := tsz_pos hz0
    obtain ⟨ax, capx, vx, rfl, hcapx, hxc, hx1, hxz, hxa⟩ := flat_rel R hys hm hvx
    obtain ⟨ad, capd, rfl, hcapd⟩ := dst_rel hdl (by rintro y rfl; simp [zOk] at hz1) hvs
    have hfirst := run_first (P := P) (z := tsz P e) (m := Nat.min m dl) (cap := capx) (Nat.min_le_left _ _) (hxz _ hz2) c.w hxa
    have hn : ∀ w' : World, ∀ a', ad = some a' → (storeCells a' (vx.take (Nat.min m dl * tsz P e))).run P c.w = .ok () w' → (Builtin.copy_ #[t, t2] o.type #[.slice ad dl capd, .slice ax m capx]).run P c.w = .ok (.int .i64 (Nat.min m dl)) w' := fun w' a' ha hst => by
      subst ha
      simp [Builtin.copy_, run_underlying' hu, sizeOf, typeInfo, hi, ← hsz, Builtin.lenOf, hfirst, hst, goInt]
    by_cases hc0 : Nat.min m dl = 0
    · rw [if_pos hc0] at hs
      simp only [yes, Option.some.injEq] at hs
      subst hs
      have h0 : (Builtin.copy_ #[t, t2] o.type #[.slice ad dl capd, .slice ax m capx]).run P c.w = .ok (.int .i64 0) c.w := by
        cases ad with
        | none =>
          rw [hc0] at hfirst
          have := hfirst
          simp [Builtin.copy_, run_underlying' hu, sizeOf, typeInfo, hi, ← hsz, Builtin.lenOf, goInt, hc0] at this ⊢
          simp [this]
        | some a' =>
          have := hn c.w a' rfl (by rw [hc0]; simp [storeCells])
          rw [hc0] at this; exact this
      exact good_same R (.int .i64 0) (hrun _ _ _ fun cs => by simp only [builtin, Sem.run_bind, h0, Result.andThen_ok, Sem.run_pure]) (by rw [V])
    · rw [if_neg hc0] at hs
      split at hs <;> try cases hs
      rename_i o' off z' len full _
      simp only [lenS, Option.some.injEq] at hdl
      subst hdl
      split at hs <;> try cases hs
      rename_i cs ty hob
      split at hs <;> try cases hs
      rename_i cs' hsp
      obtain ⟨hle, rfl⟩ := spliceN_some hsp
      have hvs' := hvs
      rw [V] at hvs'
      obtain ⟨b, st, cap', hρ, hus', _⟩ := hvs'
      cases hus'
      have hx2 := hxz _ hz2
      have hmul : Nat.min m len * tsz P e ≤ m * tsz P e := Nat.mul_le_mul_right _ (Nat.min_le_left _ _)
      have hlx : (ys.take (Nat.min m len * tsz P e)).length ≠ 0 := by
        have := hxc.length
        simp only [List.length_take]
        have : Nat.min m len * tsz P e ≠ 0 := Nat.mul_ne_zero hc0 hz0
        omega
      obtain ⟨w', hst, R', E'⟩ := obj_write (P := P) R hob hρ hle hlx (hxc.take _) (fun x hx => hx1 x (List.mem_of_mem_take hx))
      have := hn w' _ rfl hst
      exact ⟨.int .i64 (Nat.min m len), { c with w := w' }, .inl (hrun _ _ _ fun cs => by simp only [builtin, Sem.run_bind, this, Result.andThen_ok, Sem.run_pure]), by rw [V], R', E', fun _ _ => rfl⟩
  | [], H => exact H.elim
  | [_], H => exact H.2.elim
  | _ :: _ :: _ :: _, H => exact H.2.2.elim
theorem good_clear {ts : Array TypeId} {args : Array Operand} {out : Out} {evs : Operand → SV} (ho : o.op = .call { callee := .builtin .clear, args := args, argTypes := ts })
    (hs : builtinS P h k .clear ts.toList (args.toList.map evs) = some out) (R : Rel h c) (H : All2 (V c) (args.toList.map evs) (args.map ev).toList) : Good P ev o h k c out := by
  generalize hA : args.toList.map evs = A at hs H
  generalize hU : args.map ev = U at H
  have hrun := fun (w w' : World) (r : Value) => run_builtin (P := P) (ev := ev) ho w w' r
  rw [hU] at hrun
  simp only [builtinS] at hs
  split at hs <;> try (first | contradiction | (cases hs; done))
  rename_i t x _ e1
  obtain ⟨u, hsu, hv⟩ := H.single
  have e1' := args1 e1
  have e2 := args1 hsu
  subst e1'
  subst e2
  unfold clearS at hs
  split at hs <;> try cases hs
  rename_i e dl hte hdl
  have hu := tslice_some hte
  split at hs <;> try cases hs
  rename_i hchk
  simp only [Bool.not_eq_true', Bool.not_eq_false, Bool.and_eq_true, bne_iff_ne, ne_eq, beq_iff_eq] at hchk
  obtain ⟨⟨⟨hz1, hz0⟩, hst⟩, hzl⟩ := hchk
  obtain ⟨i, z, hi, hzz, hze⟩ := tzero_storable hst
  have hvz := V_ofValue c z
  rw [← hze] at hvz
  have hzsize : z.cells.size = tsz P e := by have := (hvz.cells hst).1.length; simp at this; omega
  obtain ⟨ad, capd, rfl, hcapd⟩ := dst_rel hdl (by rintro y rfl; simp [zOk] at hz1) hv
  by_cases hd0 : dl = 0
  · subst hd0
    simp only [if_true, yes, Option.some.injEq] at hs
    subst hs
    have h0 : (Builtin.clear_ #[t] o.type #[.slice ad 0 capd]).run P c.w = .ok (.tuple #[]) c.w := by
      cases ad <;> simp [Builtin.clear_, run_underlying' hu]
    exact good_same R (.tuple #[]) (hrun _ _ _ fun cs => by simp only [builtin, Sem.run_bind, h0, Result.andThen_ok, Sem.run_pure]) (by simp [V, VL])
  · rw [if_neg hd0] at hs
    split at hs <;> try cases hs
    rename_i o' off z' len full
    simp only [lenS, Option.some.injEq] at hdl
    subst hdl
    split at hs <;> try cases hs
    rename_i cs ty hob
    split at hs <;> try cases hs
    rename_i cs' hsp
    obtain ⟨hle, rfl⟩ := spliceN_some hsp
    have hv' := hv
    rw [V] at hv'
    obtain ⟨b, st, cap', hρ, hus', _⟩ := hv'
    cases hus'
    obtain ⟨zr, z1⟩ := zeros_rel hvz hst len
    have hlx : (List.replicate len (tzero P e).cells).flatten.length ≠ 0 := by
      rw [List.length_flatten, List.map_replicate, List.sum_replicate_nat, hzl]; exact Nat.mul_ne_zero hd0 hz0
    obtain ⟨w', hst', R', E'⟩ := obj_write (P := P) R hob hρ hle hlx zr z1
    have hcell := range_zeros z.cells (by omega) len
    have h0 : (Builtin.clear_ #[t] o.type #[.slice (some ⟨b, st + off, none⟩) len capd]).run P c.w = .ok (.tuple #[]) w' := by
      simp only [Builtin.clear_]
      cases len with
      | zero => exact absurd rfl hd0
      | succ n =>
        simp [run_underlying' hu, zeroValue, typeInfo, hi, hzz, Builtin.zeroCells] at *
        simp [hcell, hst']
    exact ⟨.tuple #[], { c with w := w' }, .inl (hrun _ _ _ fun cs => by simp only [builtin, Sem.run_bind, h0, Result.andThen_ok, Sem.run_pure]), by simp [V, VL], R', E', fun _ _ => rfl⟩
def KD (s : SV) (d : TypeDesc) : Prop := match s with | .int _ _ => (∃ i, d = .int i) | .str _ => d = .string | .bool _ => d = .bool | _ => False
theorem keyOk_desc {t : TypeId} {s : SV} (hk : keyOk P t s = true) : ∃ d, P.underlying t = some d ∧ KD s d := by
  unfold keyOk at hk
  split at hk
  · obtain ⟨i, hi⟩ := tsome hk; exact ⟨_, tint_some hi, i, rfl⟩
  · exact ⟨_, tstring_some hk, rfl⟩
  · exact ⟨_, tbool_some hk, rfl⟩
  · cases hk
theorem sameNow_rel {d : TypeDesc} {s s' : SV} {v v' : Value} {b : Bool} (hd : KD s d)
    (hv : V c s v) (hv' : V c s' v') (he : keyEq s s' = some b) : Instr.sameNow d v v' = some b := by
  unfold keyEq at he
  split at he
  · rename_i i a j b'
    split at he <;> try cases he
    rename_i hij
    subst hij
    simp only [KD] at hd
    obtain ⟨x, rfl⟩ := hd
    rw [vint hv, vint hv']
    simp [Instr.sameNow]
  · cases he
    simp only [KD] at hd
    subst hd
    rw [vstr hv, vstr hv']
    simp [Instr.sameNow]
  · cases he
    simp only [KD] at hd
    subst hd
    rw [vbool hv, vbool hv']
    simp [Instr.sameNow]
  · cases he
theorem findS_rel {d : TypeDesc} {s : SV} {v : Value} (hd : KD s d) (hv : V c s v) :
    ∀ (es : List (SV × SV)) (ents : List MapEntry) (i : Nat) (r : Option (Nat × SV)), All2 (fun (p : SV × SV) (e : MapEntry) => V c p.1 e.key ∧ V c p.2 e.val) es ents → findS s es i = some r →
      (r = none ∧ Instr.findNow d v ents i = some none) ∨ ∃ j x y e, r = some (i + j, x) ∧ Instr.findNow d v ents i = some (some (i + j, y)) ∧ V c x y ∧ ents[j]? = some e ∧ Instr.sameNow d v e.key = some true
  | [], ents, i, r, h, hf => by
    simp only [findS, Option.some.injEq] at hf
    subst hf
    rw [h.nil_left]
    exact .inl ⟨rfl, rfl⟩
  | p :: es, [], i, r, h, _ => h.elim
  | p :: es, e :: ents, i, r, h, hf => by
    obtain ⟨⟨h1, h2⟩, h3⟩ := h
    simp only [findS] at hf
    split at hf
    · rename_i he
      cases hf
      have := sameNow_rel hd hv h1 he
      exact .inr ⟨0, p.2, e.val, e, rfl, by simp [Instr.findNow, this], h2, rfl, this⟩
    · rename_i he
      have := sameNow_rel hd hv h1 he
      rcases findS_rel hd hv es ents (i + 1) r h3 hf with ⟨rfl, hg⟩ | ⟨j, x, y, e', rfl, hg, hxy, hj, hs⟩
      · exact .inl ⟨rfl, by simp [Instr.findNow, this, hg]⟩
      · exact .inr ⟨j + 1, x, y, e', by congr 2; omega, by rw [show i + (j + 1) = i + 1 + j by omega]; simp [Instr.findNow, this, hg], hxy, by simpa using hj, hs⟩
    · cases hf
theorem run_checkKey {t : TypeId} {d : TypeDesc} {s : SV} {v : Value} {b : Bool} (hu : P.underlying t = some d) (hd : KD s d)
    (hv : V c s v) (w : World) : (Instr.checkKey b 10000 t v).run P w = .ok () w := by
  have gen : ∀ n, (Instr.checkKey b (n + 1) t v).run P w = .ok () w := fun n => by
    cases s <;> simp only [KD] at hd
    · subst hd; rw [vbool hv]; simp [Instr.checkKey, run_underlying' hu]
    · obtain ⟨i, rfl⟩ := hd; rw [vint hv]; simp [Instr.checkKey, run_underlying' hu]
    · subst hd; rw [vstr hv]; simp [Instr.checkKey, run_underlying' hu]
  exact gen 9999
theorem ents_set {es : List (SV × SV)} {ents : Array MapEntry} (j : Nat) {x y : SV} {u v : Value} (hu : V c x u) (hv : V c y v)
    (h : All2 (fun (p : SV × SV) (e : MapEntry) => V c p.1 e.key ∧ V c p.2 e.val) es ents.toList) :
    All2 (fun (p : SV × SV) (e : MapEntry) => V c p.1 e.key ∧ V c p.2 e.val) (setAt es j x y) (ents.modify j fun e => { e with key := u, val := v }).toList := by
  rw [Array.toList_modify]
  exact All2.modify (R := fun (p : SV × SV) (e : MapEntry) => V c p.1 e.key ∧ V c p.2 e.val) (fun _ => (x, y)) (fun e => { e with key := u, val := v }) (fun _ _ _ => ⟨hu, hv⟩) j h
theorem Born.modify {ents : Array MapEntry} {clock : Nat} (H : Born ents.toList clock) (i : Nat) (f : MapEntry → MapEntry) (hf : ∀ e, (f e).born = e.born) : Born (ents.modify i f).toList clock := by
  have e : (ents.modify i f).toList.map (·.born) = ents.toList.map (·.born) := by
    rw [Array.toList_modify]
    apply List.ext_getElem?
    intro j
    simp only [List.getElem?_map, List.getElem?_modify]
    cases ents.toList[j]? with
    | none => rfl
    | some x => simp only [Option.map_some]; split <;> simp [hf]
  refine ⟨fun x hx => ?_, by rw [e]; exact H.2⟩
  have : x.born ∈ (ents.modify i f).toList.map (·.born) := List.mem_map.2 ⟨x, hx, rfl⟩
  rw [e] at this
  obtain ⟨y, hy, h⟩ := List.mem_map.1 this
  rw [← h]; exact H.1 y hy
theorem Born.push {ents : List MapEntry} {clock : Nat} (H : Born ents clock) (e : MapEntry) (he : e.born = clock) : Born (ents ++ [e]) (clock + 1) := by
  refine ⟨fun x hx => ?_, ?_⟩
  · rcases List.mem_append.1 hx with hx | hx
    · have := H.1 x hx; omega
    · rw [List.mem_singleton.1 hx]; omega
  · rw [List.map_append, List.nodup_append]
    refine ⟨H.2, by simp, fun a ha b hb => ?_⟩
    obtain ⟨x, hx, rfl⟩ := List.mem_map.1 ha
    simp at hb
    have := H.1 x hx
    omega
theorem Born.sub {ents ents' : List MapEntry} {clock : Nat} (H : Born ents clock) (h : ents'.Sublist ents) : Born ents' clock := ⟨fun x hx => H.1 x (h.subset hx), H.2.sublist (h.map _)⟩
theorem map_write {o' b : Nat} {es es' : List (SV × SV)} {ents ents' : Array MapEntry} {clock clock' : Nat} (R : Rel h c) (ho : h o' = some (.map es)) (hρ : c.ρ o' = some (b, 0))
    (hb : c.w.heap[b]? = some (.map ents clock)) (he : All2 (fun (p : SV × SV) (e : MapEntry) => V c p.1 e.key ∧ V c p.2 e.val) es' ents'.toList) (hB : Born ents'.toList clock') :
    Rel (hset h o' (some (.map es'))) { c with w := { c.w with heap := c.w.heap.setIfInBounds b (.map ents' clock') } } ∧ Ext c { c with w := { c.w with heap := c.w.heap.setIfInBounds b (.map ents' clock') } } := by
  have hlt : b < c.w.heap.size := (Array.getElem?_eq_some_iff.1 hb).1
  refine R.write ho hρ (by simp) (fun b' hb' => by simp [Array.getElem?_setIfInBounds_ne (Ne.symm hb')]) ?_ rfl rfl (fun E => ?_)
  · simp [rm, hb]
  · exact ⟨b, ents', clock', hρ, by simp [hlt], All2.mono (fun _ _ g => ⟨V.mono E g.1, V.mono E g.2⟩) he, hB⟩
theorem run_findKey {t : TypeId} {d : TypeDesc} {v : Value} {ents : List MapEntry} {r : Option (Nat × Value)} (hu : P.underlying t = some d) (hf : Instr.findNow d v ents 0 = some r) (w : World) :
    (Instr.findKey t v ents).run P w = .ok r w := by
  simp [Instr.findKey, run_underlying' hu, hf]
theorem ba_beq (a b : ByteArray) : (a == b) = true ↔ a = b := by
  obtain ⟨x⟩ := a
  obtain ⟨y⟩ := b
  have e : ((⟨x⟩ : ByteArray) == ⟨y⟩) = (x == y) := rfl
  rw [e, beq_iff_eq, ByteArray.mk.injEq]
theorem sameBits_of {d : TypeDesc} {s : SV} {v v' : Value} (hd : KD s d) (hv : V c s v)
    (hs : Instr.sameNow d v v' = some true) (n : Nat) : Instr.sameBits n v' v = true := by
  cases s <;> simp only [KD] at hd
  · subst hd; rw [vbool hv] at *
    cases v' <;> simp [Instr.sameNow] at hs
    cases n <;> simp [Instr.sameBits, hs]
  · obtain ⟨i, rfl⟩ := hd; rw [vint hv] at *
    cases v' <;> simp [Instr.sameNow] at hs
    cases n <;> simp [Instr.sameBits, hs]
  · subst hd; rw [vstr hv] at *
    cases v' <;> simp [Instr.sameNow] at hs
    have := (ba_beq _ _).1 hs
    subst this
    cases n <;> simp only [Instr.sameBits] <;> exact (ba_beq _ _).2 rfl
theorem sop_mapUpdate {t : TypeId} {m y x : Operand} {out : Out} {evs : Operand → SV} (ho : o.op = .mapUpdate t m y x ∨ o.op = .insert t m y x) (hs : sop P evs h k o.op = some out) (R : Rel h c)
    (H : ∀ x ∈ o.op.operands, V c (evs x) (ev x)) : Good P ev o h k c out := by
  rcases ho with ho | ho
  all_goals
    rw [ho] at hs H
    simp only [sop] at hs
    have hm := H m (by simp [Op.operands])
    have hy := H y (by simp [Op.operands])
    have hx := H x (by simp [Op.operands])
    split at hs <;> try cases hs
    rename_i kt e o' ht hmm
    split at hs <;> try cases hs
    rename_i hko
    simp only [Bool.not_eq_true', Bool.not_eq_false] at hko
    obtain ⟨d, hd, hdd⟩ := keyOk_desc hko
    split at hs <;> try cases hs
    rename_i es hob
    split at hs <;> try cases hs
    rename_i hst
    rw [hmm, V] at hm
    obtain ⟨b, hρ, hmv⟩ := hm
    obtain ⟨b', ents, clock, g1, g2, g3, hB⟩ := R.obj _ _ hob
    rw [hρ] at g1; cases g1
    have hck := fun w => run_checkKey (P := P) (b := false) hd hdd hy w
    have hget : ∀ (f : Obj → Sem Unit), ((getObj b).bind f).run P c.w = (f (.map ents clock)).run P c.w := fun f => by
      simp [getObj, Sem.bind, Sem.run, g2]
    have fin : ∀ (es' : List (SV × SV)) (ents' : Array MapEntry) (clock' : Nat), All2 (fun (p : SV × SV) (e : MapEntry) => V c p.1 e.key ∧ V c p.2 e.val) es' ents'.toList → Born ents'.toList clock' →
        (Instr.mapUpdate t (ev m) (ev y) (ev x)).run P c.w = .ok () { c.w with heap := c.w.heap.setIfInBounds b (.map ents' clock') } →
        Good P ev o h k c { val := .tup [], upd := some (o', some (.map es')) } := fun es' ents' clock' he hB' hr => by
      obtain ⟨R', E'⟩ := map_write (clock' := clock') R hob hρ g2 he hB'
      exact ⟨undef, _, .inr ⟨rfl, by simp [execOp, ho, hr]⟩, by simp [V, undef, VL], R', E', fun _ _ => rfl⟩
    have hset' : ∀ ob : Obj, (setObj b ob).run P c.w = .ok () { c.w with heap := c.w.heap.setIfInBounds b ob } := fun ob => by
      simp [setObj, Sem.run, g2]
    have hgo : (getObj b).run P c.w = .ok (.map ents clock) c.w := by simp [getObj, Sem.run, g2]
    split at hs <;> try cases hs
    · rename_i i x' hfs
      rcases findS_rel hdd hy es ents.toList 0 _ g3 hfs with ⟨hc, _⟩ | ⟨j, x2, y2, e2, hr, hf, hxy, hj, hsame⟩
      · cases hc
      · simp only [Nat.zero_add, Option.some.injEq, Prod.mk.injEq] at hr
        obtain ⟨rfl, rfl⟩ := hr
        refine fin _ _ clock (ents_set i hy hx g3) (Born.modify hB i _ fun _ => rfl) ?_
        have hfk := fun w => run_findKey (P := P) hd hf w
        have hsb := sameBits_of hdd hy hsame 10000
        have hj' : ents[i]? = some e2 := by simpa using hj
        simp [Instr.mapUpdate, run_underlying' (tmap_some ht), hmv, hgo, hck, hfk, Instr.keyThatStays, hj', hsb, hset']
    · rename_i hfs
      rcases findS_rel hdd hy es ents.toList 0 _ g3 hfs with ⟨_, hf⟩ | ⟨j, x2, y2, e2, hr, _⟩
      · refine fin _ (ents.push { key := ev y, val := ev x, born := clock }) (clock + 1) (by rw [Array.toList_push]; exact All2.append g3 (as' := [(evs y, evs x)]) ⟨⟨hy, hx⟩, trivial⟩) (by rw [Array.toList_push]; exact hB.push _ rfl) ?_
        have hfk := fun w => run_findKey (P := P) hd hf w
        simp [Instr.mapUpdate, run_underlying' (tmap_some ht), hmv, hgo, hck, hfk, hset']
      · cases hr
theorem sop_lookup {t : TypeId} {m y : Operand} {ok : Bool} {out : Out} {evs : Operand → SV} (ho : o.op = .lookup t m y ok) (hs : sop P evs h k o.op = some out) (R : Rel h c)
    (H : ∀ x ∈ o.op.operands, V c (evs x) (ev x)) : Good P ev o h k c out := by
  rw [ho] at hs H
  simp only [sop] at hs
  have hm := H m (by simp [Op.operands])
  have hy := H y (by simp [Op.operands])
  split at hs <;> try cases hs
  rename_i kt e ht
  split at hs <;> try cases hs
  rename_i hko
  simp only [Bool.or_eq_true, Bool.not_eq_true', not_or, Bool.not_eq_false] at hko
  obtain ⟨hko, hst⟩ := hko
  obtain ⟨d, hd, hdd⟩ := keyOk_desc hko
  obtain ⟨i, z, hi, hzz, hze⟩ := tzero_storable hst
  have hvz := V_ofValue c z
  rw [← hze] at hvz
  obtain ⟨es, ents, hes, hall, hrun⟩ : ∃ (es : List (SV × SV)) (ents : Array MapEntry),
      mapOf h (evs m) = some es ∧
      All2 (fun (p : SV × SV) (e : MapEntry) => V c p.1 e.key ∧ V c p.2 e.val) es ents.toList ∧
      ∀ r : Value × Bool, (match Instr.findNow d (ev y) ents.toList 0 with | some (some (_, v)) => r = (v, true) | some none => r = (z, false) | none => False) →
        (Instr.lookup t (ev m) (ev y) ok).run P c.w = .ok (if ok then .tuple #[r.1, .bool r.2] else r.1) c.w := by
    split at hs <;> try cases hs
    rename_i es hes
    cases hev : evs m <;> rw [hev] at hes hm <;> simp only [mapOf] at hes <;> try cases hes
    · rw [V] at hm
      refine ⟨[], #[], rfl, trivial, fun r hr => ?_⟩
      have hck := fun b w => run_checkKey (P := P) (b := b) hd hdd hy w
      simp [Instr.findNow] at hr
      subst hr
      cases ok <;> simp [Instr.lookup, run_underlying' (tmap_some ht), hm, hck, Instr.findKey, run_underlying' hd, Instr.findNow, run_zeroValue' hi hzz]
    · rename_i o'
      split at hes <;> try cases hes
      rename_i hob
      rw [V] at hm
      obtain ⟨b, hρ, hmv⟩ := hm
      obtain ⟨b', ents, clock, g1, g2, g3, _⟩ := R.obj _ _ hob
      rw [hρ] at g1; cases g1
      refine ⟨es, ents, by simp only [mapOf, hob], g3, fun r hr => ?_⟩
      have hck := fun b w => run_checkKey (P := P) (b := b) hd hdd hy w
      have hgo : (getObj b).run P c.w = .ok (.map ents clock) c.w := by simp [getObj, Sem.run, g2]
      cases hf : Instr.findNow d (ev y) ents.toList 0 with
      | none => rw [hf] at hr; exact hr.elim
      | some q =>
        have hfk := fun w => run_findKey (P := P) hd hf w
        rw [hf] at hr
        cases q with
        | none =>
          simp only at hr
          subst hr
          cases ok <;> simp [Instr.lookup, run_underlying' (tmap_some ht), hmv, hgo, hck, hfk, run_zeroValue' hi hzz]
        | some q =>
          obtain ⟨q1, q2⟩ := q
          simp only at hr
          subst hr
          cases ok <;> simp [Instr.lookup, run_underlying' (tmap_some ht), hmv, hgo, hck, hfk]
  rw [hes] at hs
  simp only at hs
  cases hfs : findS (evs y) es 0 with
  | none => simp [hfs] at hs
  | some r =>
    simp only [hfs, yes, Option.some.injEq] at hs
    subst hs
    rcases findS_rel hdd hy es ents.toList 0 r hall hfs with ⟨rfl, hf⟩ | ⟨j, x2, y2, e2, rfl, hf, hxy, _, _⟩
    · have hr := hrun (z, false) (by rw [hf])
      refine good_same R _ (by simp only [execOp, ho, Sem.run_bind, hr, Result.andThen_ok, Sem.run_pure]; rfl) ?_
      cases ok <;> simp [V, VL, hvz]
    · have hr := hrun (y2, true) (by rw [hf])
      refine good_same R _ (by simp only [execOp, ho, Sem.run_bind, hr, Result.andThen_ok, Sem.run_pure]; rfl) ?_
      cases ok <;> simp [V, VL, hxy]
end
section
variable {P : Program} {ev : Operand → Value} {o : Oper} {h : Hp} {k : Nat} {c : Cx}
theorem good_delete {ts : Array TypeId} {args : Array Operand} {out : Out} {evs : Operand → SV} (ho : o.op = .call { callee := .builtin .delete, args := args, argTypes := ts })
    (hs : builtinS P h k .delete ts.toList (args.toList.map evs) = some out) (R : Rel h c) (H : All2 (V c) (args.toList.map evs) (args.map ev).toList) : Good P ev o h k c out := by
  generalize hA : args.toList.map evs = A at hs H
  generalize hU : args.map ev = U at H
  have hrun := fun (w w' : World) (r : Value) => run_builtin (P := P) (ev := ev) ho w w' r
  rw [hU] at hrun
  simp only [builtinS] at hs
  split at hs <;> try (first | contradiction | (cases hs; done))
  rename_i t t2 o' y _ e1
  match hU' : U.toList, H with
  | [um, uy], H =>
    have e1' := args2 e1
    have e2' := args2 hU'
    subst e1'
    subst e2'
    have hm := H.1
    have hy := H.2.1
    split at hs <;> try cases hs
    rename_i kt e es ht hob
    split at hs <;> try cases hs
    rename_i hko
    simp only [Bool.not_eq_true', Bool.not_eq_false] at hko
    obtain ⟨d, hd, hdd⟩ := keyOk_desc hko
    rw [V] at hm
    obtain ⟨b, hρ, hmv⟩ := hm
    subst hmv
    obtain ⟨b', ents, clock, g1, g2, g3, hB⟩ := R.obj _ _ hob
    rw [hρ] at g1; cases g1
    have hck := fun b w => run_checkKey (P := P) (b := b) hd hdd hy w
    have hset' : ∀ ob : Obj, (setObj b ob).run P c.w = .ok () { c.w with heap := c.w.heap.setIfInBounds b ob } := fun ob => by
      simp [setObj, Sem.run, g2]
    have hgo : (getObj b).run P c.w = .ok (.map ents clock) c.w := by simp [getObj, Sem.run, g2]
    have fin : ∀ (es' : List (SV × SV)) (ents' : Array MapEntry) (clock' : Nat), All2 (fun (p : SV × SV) (e : MapEntry) => V c p.1 e.key ∧ V c p.2 e.val) es' ents'.toList → Born ents'.toList clock' →
        (Builtin.delete_ #[t, t2] o.type #[.map (some b), uy]).run P c.w = .ok (.tuple #[]) { c.w with heap := c.w.heap.setIfInBounds b (.map ents' clock') } →
        Good P ev o h k c { val := .tup [], upd := some (o', some (.map es')) } := fun es' ents' clock' he hB' hr => by
      obtain ⟨R', E'⟩ := map_write (clock' := clock') R hob hρ g2 he hB'
      exact ⟨.tuple #[], _, .inl (hrun _ _ _ fun cs => by simp only [builtin, Sem.run_bind, hr, Result.andThen_ok, Sem.run_pure]), by simp [V, VL], R', E', fun _ _ => rfl⟩
    split at hs <;> try cases hs
    · rename_i i x' hfs
      rcases findS_rel hdd hy es ents.toList 0 _ g3 hfs with ⟨hc, _⟩ | ⟨j, x2, y2, e2, hr, hf, hxy, hj, hsame⟩
      · cases hc
      · simp only [Nat.zero_add, Option.some.injEq, Prod.mk.injEq] at hr
        obtain ⟨rfl, rfl⟩ := hr
        have hj' : ents[i]? = some e2 := by simpa using hj
        have hlt := (Array.getElem?_eq_some_iff.1 hj').1
        refine fin _ (ents.eraseIdxIfInBounds i) clock (by simpa [Array.eraseIdxIfInBounds, hlt] using All2.eraseIdx i g3) (hB.sub (by simp [Array.eraseIdxIfInBounds, hlt]; exact List.eraseIdx_sublist _ _)) ?_
        have hfk := fun w => run_findKey (P := P) hd hf w
        simp [Builtin.delete_, run_underlying' (tmap_some ht), hgo, hck, hfk, hset']
    · rename_i hfs
      rcases findS_rel hdd hy es ents.toList 0 _ g3 hfs with ⟨_, hf⟩ | ⟨j, x2, y2, e2, hr, _⟩
      · refine fin _ ents clock g3 hB ?_
        have hfk := fun w => run_findKey (P := P) hd hf w
        simp [Builtin.delete_, run_underlying' (tmap_some ht), hgo, hck, hfk, hset']
      · cases hr
  | [], H => exact H.elim
  | [_], H => exact H.2.elim
  | _ :: _ :: _ :: _, H => exact H.2.2.elim
theorem sop_sound {out : Out} {evs : Operand → SV} (hs : sop P evs h k o.op = some out) (R : Rel h c) (hk : c.ρ k = none) (H : ∀ x ∈ o.op.operands, V c (evs x) (ev x)) : Good P ev o h k c out := by
  cases ho : o.op with
  | move x => exact sop_move (.inl ho) hs R H
  | assign x => exact sop_move (.inr ho) hs R H
  | pick a b d => exact sop_pick ho hs R H
  | alloc e => exact sop_alloc ho hs R hk
  | box e x => exact sop_box ho hs R hk H
  | build t ps => exact sop_build ho hs R H
  | buildSlice t l ps => exact sop_buildSlice ho hs R hk H
  | load t a => exact sop_load ho hs R H
  | store t a x => exact sop_store ho hs R H
  | nilCheck x => exact sop_nilCheck ho hs R H
  | binOp op t x y t2 => exact sop_binOp ho hs R H
  | unOp op t x => exact sop_unOp ho hs R H
  | convert a b x => exact sop_convert ho hs R H
  | makeFunc f a b => exact sop_makeFunc ho hs R H
  | makeMap t r => exact sop_makeMap ho hs R hk
  | makeSlice t l c => exact sop_makeSlice ho hs R hk H
  | slice t x lo hi mx => exact sop_slice ho hs R H
  | fieldAddr t x i => exact sop_fieldAddr ho hs R H
  | field t x i => exact sop_field ho hs R H
  | indexAddr t x i => exact sop_indexAddr ho hs R H
  | index t x i => exact sop_index ho hs R H
  | lookup t m y ok => exact sop_lookup ho hs R H
  | mapUpdate t m y x => exact sop_mapUpdate (.inl ho) hs R H
  | insert t m y x => exact sop_mapUpdate (.inr ho) hs R H
  | extract x i => exact sop_extract ho hs R H
  | call cl =>
    obtain ⟨callee, args, ts⟩ := cl
    cases callee with
    | value f => rw [ho] at hs; simp [sop] at hs
    | invoke r m => rw [ho] at hs; simp [sop] at hs
    | builtin b =>
      have hb : builtinS P h k b ts.toList (args.toList.map evs) = some out := by rw [ho] at hs; simpa only [sop] using hs
      have H' : All2 (V c) (args.toList.map evs) (args.map ev).toList := map_rel args fun x hx => H x (by rw [ho]; simp [Op.operands, Call.operands]; simpa using hx)
      cases b with
      | len => exact good_len ho hb R H'
      | cap => exact good_cap ho hb R H'
      | append => exact good_append ho hb R hk H'
      | copy => exact good_copy ho hb R H'
      | clear => exact good_clear ho hb R H'
      | min => exact good_min ho hb R H'
      | max => exact good_max ho hb R H'
      | delete => exact good_delete ho hb R H'
      | _ => unfold builtinS at hb; split at hb <;> first | contradiction | cases hb
  | _ => rw [ho] at hs; simp [sop] at hs
end
structure Env where
  ro : Option Nat
  mks : Bool
  base : Nat
  inv : Cx → Prop
  ext : ∀ {c c' : Cx}, Ext c c' → inv c → inv c'
def Env.plain : Env := ⟨none, false, 0, fun _ => True, fun _ _ => trivial⟩
def Env.fc (E : Env) : Fence := { Fence.wide with round := E.ro }
def mark (D : Nat) : Deferred := { target := .collected D, args := #[] }
structure Marks (E : Env) (c : Cx) (ds : List Deferred) : Prop where
  base : E.base ≤ c.w.heap.size
  none : E.mks = false → ds = []
  nodup : ds.Nodup
  ok : ∀ d ∈ ds, ∃ D, E.base ≤ D ∧ d = mark D ∧ c.w.heap[D]? = some (.deferred (some [])) ∧ ¬ c.own D
theorem Marks.mono {E : Env} {c c' : Cx} {ds : List Deferred} (x : Ext c c') (H : Marks E c ds) : Marks E c' ds :=
  ⟨Nat.le_trans H.base x.size, H.none, H.nodup, fun d hd => by
    obtain ⟨D, h1, h2, h3, h4⟩ := H.ok d hd
    have hb := (Array.getElem?_eq_some_iff.1 h3).1
    exact ⟨D, h1, h2, by rw [(x.keep D hb h4).2]; exact h3, (x.keep D hb h4).1⟩⟩
structure FR (E : Env) (N : Nat) (sa : SA) (c : Cx) (a : Act) : Prop where
  size : a.tmps.size = N
  defers : Marks E c a.defers
  val : ∀ t, V c (look sa t) (a.tmps.getD t undef)
def Fr (n : Nat) (c : Cx) : Prop := ∀ j, n ≤ j → c.ρ j = none
theorem FR.ext {E : Env} {N : Nat} {sa : SA} {c c' : Cx} {a : Act} (h : FR E N sa c a) (x : Ext c c') : FR E N sa c' a := ⟨h.size, h.defers.mono x, fun t => V.mono x (h.val t)⟩
theorem FR.ev {E : Env} {N : Nat} {sa : SA} {c : Cx} {a : Act} (h : FR E N sa c a) (x : Operand) : V c (evS sa x) (a.eval x) := by
  cases x with
  | tmp t => exact h.val t
  | const v => exact V_ofValue c v
  | global g => simp [evS, V]
  | func f => simp [evS, Act.eval, V, VL]
theorem FR.put {E : Env} {N : Nat} {sa : SA} {c : Cx} {a : Act} (h : FR E N sa c a) {dst : Option Tmp} (hd : ∀ d, dst = some d → d < N) {s : SV} {u : Value} (hv : V c s u) : FR E N (putT sa dst s) c (a.put dst u) := by
  cases dst with
  | none => exact h
  | some d =>
    refine ⟨by simpa [Act.put] using h.size, h.defers, fun t => ?_⟩
    simp only [putT, look, Act.put]
    by_cases e : d = t
    · subst e
      have := hd d rfl
      have hs := h.size
      simp [hs, this, hv]
    · simp only [e, if_false]
      have := h.val t
      simpa [Array.getElem?_setIfInBounds_ne e] using this
theorem V_undef {c : Cx} : V c (.tup []) undef := by rw [V]; exact ⟨[], rfl, by simp [VL]⟩
theorem FR.weaken {E : Env} {N : Nat} {sa sb : SA} {c : Cx} {a : Act} (h : FR E N sa c a) (hw : ∀ p ∈ sb, look sa p.1 = p.2) : FR E N sb c a := by
  refine ⟨h.size, h.defers, fun t => ?_⟩
  have key : ∀ l : SA, (∀ p ∈ l, look sa p.1 = p.2) → look l t = .junk ∨ look l t = look sa t := by
    intro l
    induction l with
    | nil => intro _; exact .inl rfl
    | cons p l ih =>
      intro hl
      obtain ⟨k, x⟩ := p
      simp only [look]
      by_cases e : k = t
      · subst e; simp only [if_true]; exact .inr (hl (k, x) (by simp)).symm
      · simp only [e, if_false]; exact ih fun q hq => hl q (by simp [hq])
  rcases key sb hw with e | e
  · rw [e]; simp [V]
  · rw [e]; exact h.val t
structure Adv (n : Nat) (c : Cx) (n' : Nat) (c' : Cx) : Prop where
  ext : Ext c c'
  le : n ≤ n'
  same : ∀ j, j < n → c'.ρ j = c.ρ j
theorem Adv.refl (n : Nat) (c : Cx) : Adv n c n c := ⟨Ext.refl c, Nat.le_refl _, fun _ _ => rfl⟩
theorem Adv.trans {n1 n2 n3 : Nat} {a b c : Cx} (h : Adv n1 a n2 b) (g : Adv n2 b n3 c) : Adv n1 a n3 c :=
  ⟨h.ext.trans g.ext, Nat.le_trans h.le g.le, fun j hj => (g.same j (Nat.lt_of_lt_of_le hj h.le)).trans (h.same j hj)⟩
abbrev Post := Exit → SA → Hp → Nat → Prop
def Lift (E : Env) (N n : Nat) (c : Cx) (Q : Post) : Exit → Act → World → Prop := fun e a' w' =>
  ∃ sa' h' n' c', Q e sa' h' n' ∧ c'.w = w' ∧ Rel h' c' ∧ Fr n' c' ∧ FR E N sa' c' a' ∧ Adv n c n' c'
def Code.dok (N : Nat) : Code → Bool
  | .region _ ops _ => ops.toList.all fun o => o.dst.all (· < N)
  | .seq a b => Code.dok N a && Code.dok N b
  | .cond _ a b => Code.dok N a && Code.dok N b
  | .block _ b => Code.dok N b
  | .loop b => Code.dok N b
  | .rangeFunc _ ps a b => ps.toList.all (· < N) && (Code.dok N a && Code.dok N b)
  | .skip | .exit _ | .ret => true
  | _ => false
def SWE (E : Env) (P : Program) (N : Nat) (code : Code) (Q : Post) (sa : SA) (h : Hp) (n : Nat) : Prop :=
  Code.dok N code = true → ∀ c a, E.inv c → Rel h c → Fr n c → FR E N sa c a → code.wpIn E.fc 0 P (Lift E N n c Q) a c.w
def okFn (P : Program) (f : FuncId) : Bool :=
  match P.funcs[f]? with
  | some fn => fn.body.isSome && fn.name != "runtime.NumGoroutine"
  | none => false
def SCallE (E : Env) (P : Program) (f : FuncId) (args : List SV) (h : Hp) (n : Nat) (Q : SV → Hp → Nat → Prop) : Prop :=
  okFn P f = true ∧ ∀ c vs, E.inv c → Rel h c → Fr n c → All2 (V c) args vs → Calls P f vs.toArray c.w (fun e w' =>
    ∃ u v h' n' c', e = .returned u ∧ Q v h' n' ∧ c'.w = w' ∧ V c' v u ∧ Rel h' c' ∧ Fr n' c' ∧ Adv n c n' c')
theorem SCallE.mono {E : Env} {P : Program} {f : FuncId} {args : List SV} {h : Hp} {n : Nat} {Q Q' : SV → Hp → Nat → Prop} (H : SCallE E P f args h n Q) (hq : ∀ v h' n', Q v h' n' → Q' v h' n') : SCallE E P f args h n Q' :=
  ⟨H.1, fun c vs I R F A => (H.2 c vs I R F A).mono fun _ _ ⟨u, v, h', n', c', e, q, r⟩ => ⟨u, v, h', n', c', e, hq _ _ _ q, r⟩⟩
def callee : SV → List SV → Option (FuncId × List SV)
  | .fn (.func f) a b, args => some (f, a ++ args ++ b)
  | _, _ => none
def YCallE (E : Env) (P : Program) (l : Nat) (args : List SV) (h : Hp) (n : Nat) (Q : SV → Hp → Nat → Prop) : Prop :=
  ∀ c vs, E.inv c → Rel h c → Fr n c → All2 (V c) args vs → YieldAt Fence.wide 0 P l vs.toArray c.w (fun e w' =>
    ∃ u v h' n' c', e = .returned u ∧ Q v h' n' ∧ c'.w = w' ∧ V c' v u ∧ Rel h' c' ∧ Fr n' c' ∧ Adv n c n' c')
def calleeY : SV → Option Nat
  | .fn (.yield l) [] [] => some l
  | _ => none
def YCallO (E : Env) (P : Program) (o : Nat) (args : List SV) (h : Hp) (n : Nat) (Q : SV → Hp → Nat → Prop) : Prop :=
  ∀ c vs l, c.ρ o = some (l, 0) → E.inv c → Rel h c → Fr n c → All2 (V c) args vs → YieldAt Fence.wide 0 P l vs.toArray c.w (fun e w' =>
    ∃ u v h' n' c', e = .returned u ∧ Q v h' n' ∧ c'.w = w' ∧ V c' v u ∧ Rel h' c' ∧ Fr n' c' ∧ Adv n c n' c')
def calleeO : SV → Option Nat
  | .yl o => some o
  | _ => none
def SemOp (E : Env) (P : Program) (evs : Operand → SV) (o : Oper) (h : Hp) (n : Nat) (K : SV → Hp → Nat → Prop) : Prop :=
  (∀ c, o.op ≠ .defer c) ∧ ∀ (c : Cx) (ev : Operand → Value), (∀ v, ev (.const v) = v) → E.inv c → Rel h c → Fr n c → (∀ x, V c (evs x) (ev x)) →
    ∃ u v h' n' c', (execOp ev o).run P c.w = .ok (.value u) c'.w ∧ V c' v u ∧ Rel h' c' ∧ Fr n' c' ∧ Adv n c n' c' ∧ K v h' n'
def SemU (E : Env) (P : Program) (evs : Operand → SV) (o : Oper) (h : Hp) (n : Nat) (K : SV → Hp → Nat → Prop) : Prop :=
  (∀ c, o.op ≠ .defer c) ∧ ∀ (c : Cx) (ev : Operand → Value), (∀ v, ev (.const v) = v) → E.inv c → Rel h c → Fr n c → (∀ x, V c (evs x) (ev x)) →
    ∃ h' n' c', (execOp ev o).run P c.w = .ok .skip c'.w ∧ Rel h' c' ∧ Fr n' c' ∧ Adv n c n' c' ∧ K (.tup []) h' n'
def SemV (P : Program) (evs : Operand → SV) (o : Oper) (v : SV) : Prop :=
  (∀ c, o.op ≠ .defer c) ∧ ∀ (c : Cx) (ev : Operand → Value), (∀ v, ev (.const v) = v) → (∀ x ∈ o.op.operands, V c (evs x) (ev x)) → ∃ u, (execOp ev o).run P c.w = .ok (.value u) c.w ∧ V c v u
theorem SemV.op {E : Env} {P : Program} {evs : Operand → SV} {o : Oper} {v : SV} (H : SemV P evs o v) {h : Hp} {n : Nat} {K : SV → Hp → Nat → Prop} (hk : K v h n) : SemOp E P evs o h n K :=
  ⟨H.1, fun c ev hc _ R F hv => let ⟨u, h1, h2⟩ := H.2 c ev hc fun x _ => hv x; ⟨u, v, h, n, c, h1, h2, R, F, Adv.refl n c, hk⟩⟩
def stepE (E : Env) (P : Program) (o : Oper) (sa : SA) (h : Hp) (n : Nat) (K : SV → Hp → Nat → Prop) : Prop :=
  match o.op with
  | .call { callee := .value f, args, .. } =>
    match callee (evS sa f) (args.toList.map (evS sa)) with
    | some (g, aS) => SCallE E P g aS h n K
    | none => match calleeY (evS sa f) with
      | some l => YCallE E P l (args.toList.map (evS sa)) h n K
      | none => match calleeO (evS sa f) with | some o => YCallO E P o (args.toList.map (evS sa)) h n K | none => False
  | op =>
    match sop P (evS sa) h n op with
    | some out => K out.val (out.app h n) (if out.new.isSome then n + 1 else n)
    | none => match op with | .mapUpdate .. => SemU E P (evS sa) o h n K | _ => SemOp E P (evS sa) o h n K
def guardS (ops : Array Oper) (sa : SA) (o : Oper) : Option Bool :=
  match o.guard with
  | none => some true
  | some (j, want) =>
    match (ops[j]?).bind (·.dst) with
    | some d => match look sa d with | .bool b => some (b == want) | .tup [] => some false | _ => none
    | none => none
def sopsE (E : Env) (P : Program) (ops : Array Oper) (Q : SA → Hp → Nat → Prop) : List Oper → SA → Hp → Nat → Prop
  | [], sa, h, n => Q sa h n
  | o :: rest, sa, h, n =>
    match guardS ops sa o with
    | some b => if b = true then stepE E P o sa h n fun v h' n' => sopsE E P ops Q rest (putT sa o.dst v) h' n' else sopsE E P ops Q rest (putT sa o.dst (.tup [])) h n
    | none => False
section
variable {E : Env} {P : Program} {N : Nat} {ops : Array Oper}
theorem guard_rel {sa : SA} {c : Cx} {a : Act} {o : Oper} {b : Bool} (F : FR E N sa c a) (hg : guardS ops sa o = some b) : Region.wanted o (yielded ops a.tmps) = b := by
  unfold guardS at hg
  unfold Region.wanted
  split at hg
  · rename_i e; rw [e]; simpa using hg
  · rename_i j want e
    rw [e]
    split at hg <;> try cases hg
    rename_i d hd
    split at hg <;> try cases hg
    · rename_i b' hb
      have hv := F.val d
      rw [hb] at hv
      have := vbool hv
      simp only [yielded, hd, Option.bind_some]
      have hget : a.tmps[d]? = some (.bool b') := by
        rcases Nat.lt_or_ge d a.tmps.size with hl | hl
        · rw [Array.getD_eq_getD_getElem?, Array.getElem?_eq_getElem hl] at this
          rw [Array.getElem?_eq_getElem hl]; simpa using this
        · rw [Array.getD_eq_getD_getElem?, Array.getElem?_eq_none hl] at this
          cases this
      rw [hget]
      simp
    · rename_i hb
      have hv := F.val d
      rw [hb, V] at hv
      obtain ⟨vs, hv, _⟩ := hv
      simp only [yielded, hd, Option.bind_some]
      rcases Nat.lt_or_ge d a.tmps.size with hl | hl
      · rw [Array.getD_eq_getD_getElem?, Array.getElem?_eq_getElem hl] at hv
        rw [Array.getElem?_eq_getElem hl]
        simp only [Option.getD_some] at hv
        rw [hv]; rfl
      · rw [Array.getElem?_eq_none hl]; rfl
theorem sop_noDefer {ev : Operand → SV} {h : Hp} {k : Nat} {op : Op} {out : Out} (hs : sop P ev h k op = some out) : ∀ c, op ≠ .defer c := by
  rintro c rfl; simp [sop] at hs
theorem stepE_sound {o : Oper} {sa : SA} {h : Hp} {n : Nat} {K : SV → Hp → Nat → Prop} {Kr : Act → World → Prop} {Qr : Exit → Act → World → Prop} {c : Cx} {a : Act}
    (H : stepE E P o sa h n K) (I : E.inv c) (R : Rel h c) (F : Fr n c) (A : FR E N sa c a)
    (hK : ∀ v h' n' c' u, K v h' n' → V c' v u → Rel h' c' → Fr n' c' → Adv n c n' c' → Kr (a.put o.dst u) c'.w) : o.wpIn E.fc 0 P a c.w Kr Qr := by
  refine ⟨fun _ _ => trivial, ?_⟩
  have plain : ∀ out, sop P (evS sa) h n o.op = some out → K out.val (out.app h n) (if out.new.isSome then n + 1 else n) → o.uponIn E.fc 0 P a Kr Qr ((o.semAt E.fc.round a.eval).run P c.w) := fun out hs hk => by
    obtain ⟨u, c', hr, hv, R', X, hρ⟩ := sop_sound (ev := a.eval) hs R (F n (Nat.le_refl _)) fun x _ => A.ev x
    have F' : Fr (if out.new.isSome then n + 1 else n) c' := fun j hj => by
      have : c'.ρ j = c.ρ j := hρ j (by cases hn : out.new <;> simp [hn] at hj ⊢; omega)
      rw [this]; exact F j (by cases hn : out.new <;> simp [hn] at hj <;> omega)
    have A' : Adv n c (if out.new.isSome then n + 1 else n) c' := ⟨X, by split <;> omega, fun j hj => hρ j (.inr (by omega))⟩
    have := hK _ _ _ c' u hk hv R' F' A'
    rw [Oper.semAt_eq _ _ _ (sop_noDefer hs)]
    rcases hr with hr | ⟨rfl, hr⟩
    · rw [hr]; exact this
    · rw [hr]; exact this
  unfold stepE at H
  split at H
  · rename_i f args ts ho
    rw [Oper.semAt_eq _ _ _ (by rw [ho]; simp)]
    split at H
    · rename_i g aS hc
      have hf := A.ev f
      unfold callee at hc
      split at hc <;> try cases hc
      rename_i s args' g' x y e1
      rw [e1, V] at hf
      obtain ⟨xs, ys, hfv, h1, h2⟩ := hf
      have hargs : All2 (V c) (x ++ args.toList.map (evS sa) ++ y) (xs ++ (args.map a.eval).toList ++ ys) :=
        All2.append (All2.append (VL_iff.1 h1) (map_rel args fun z _ => A.ev z)) (VL_iff.1 h2)
      obtain ⟨hok, hcall⟩ := H
      have hc := hcall c _ I R F hargs
      unfold okFn at hok
      cases hfn : P.funcs[g]? with
      | none => simp [hfn] at hok
      | some fn =>
        simp only [hfn, Bool.and_eq_true, bne_iff_ne, ne_eq] at hok
        have hrun : (execOp a.eval o).run P c.w = .ok (.enter g (xs.toArray ++ args.map a.eval ++ ys.toArray)) c.w := by
          have hb : fn.body ≠ none := by intro e; simp [e] at hok
          simp [execOp, ho, resolve, Deferred.ofValue, hfv, invoke, callFunc, hfn, hok.2, hb]
        have earr : xs.toArray ++ args.map a.eval ++ ys.toArray = (xs ++ (args.map a.eval).toList ++ ys).toArray := by
          apply Array.ext'; simp
        rw [hrun, Oper.uponIn_enter, earr]
        refine ⟨fun h => by simp [Env.fc, Fence.wide] at h, (callsIn_wide.2 (hc.mono fun e w' ⟨u, v, h', n', c', he, q, hw, hv, R', F', X⟩ => ?_) : CallsIn Fence.wide _ P g _ c.w _)⟩
        subst he
        subst hw
        exact hK v h' n' c' u q hv R' F' X
    · split at H
      · rename_i l hl
        have hf := A.ev f
        unfold calleeY at hl
        split at hl <;> try cases hl
        rename_i e1
        rw [e1, V] at hf
        obtain ⟨xs, ys, hfv, h1, h2⟩ := hf
        simp only [VL] at h1 h2
        subst h1; subst h2
        obtain ⟨fn, tm, aS, bd, hy, hr⟩ := H c _ I R F (map_rel args fun z _ => A.ev z)
        have hrun : (execOp a.eval o).run P c.w = .ok (.round l fn tm aS bd) c.w := by
          have e : (args.map a.eval) = (args.map a.eval).toList.toArray := by apply Array.ext'; simp
          rw [← e] at hy
          simp [execOp, ho, resolve, Deferred.ofValue, hfv, invoke]
          simpa using hy
        rw [hrun, Oper.uponIn_round]
        refine ⟨fun h => by simp [Env.fc, Fence.wide] at h, (hr.mono fun e w' ⟨u, v, h', n', c', he, q, hw, hv, R', F', X⟩ => ?_ : RoundIn Fence.wide _ P l _ _ _ _ c.w _)⟩
        subst he
        subst hw
        exact hK v h' n' c' u q hv R' F' X
      · split at H
        · rename_i l hl
          have hf := A.ev f
          unfold calleeO at hl
          split at hl <;> try cases hl
          rename_i e1
          rw [e1, V] at hf
          obtain ⟨b, hρ, hfv⟩ := hf
          obtain ⟨fn, tm, aS, bd, hy, hr⟩ := H c _ b hρ I R F (map_rel args fun z _ => A.ev z)
          have hrun : (execOp a.eval o).run P c.w = .ok (.round b fn tm aS bd) c.w := by
            have e : (args.map a.eval) = (args.map a.eval).toList.toArray := by apply Array.ext'; simp
            rw [← e] at hy
            simp [execOp, ho, resolve, Deferred.ofValue, hfv, invoke]
            simpa using hy
          rw [hrun, Oper.uponIn_round]
          refine ⟨fun h => by simp [Env.fc, Fence.wide] at h, (hr.mono fun e w' ⟨u, v, h', n', c', he, q, hw, hv, R', F', X⟩ => ?_ : RoundIn Fence.wide _ P b _ _ _ _ c.w _)⟩
          subst he
          subst hw
          exact hK v h' n' c' u q hv R' F' X
        · exact H.elim
  · split at H
    · rename_i out hs
      exact plain out hs H
    · split at H
      · obtain ⟨hd, H⟩ := H
        rw [Oper.semAt_eq _ _ _ hd]
        obtain ⟨h', n', c', hr, R', F', X, hk⟩ := H c a.eval (fun _ => rfl) I R F A.ev
        rw [hr]
        exact hK (.tup []) h' n' c' undef hk (by simp [V, undef, VL]) R' F' X
      · obtain ⟨hd, H⟩ := H
        rw [Oper.semAt_eq _ _ _ hd]
        obtain ⟨u, v, h', n', c', hr, hv, R', F', X, hk⟩ := H c a.eval (fun _ => rfl) I R F A.ev
        rw [hr]
        exact hK v h' n' c' u hk hv R' F' X
theorem sopsE_sound {Q : SA → Hp → Nat → Prop} (Qp : Post) (hQ : ∀ sa h n, Q sa h n → Qp .normal sa h n) : ∀ (l : List Oper) (sa : SA) (h : Hp) (n n0 : Nat) (c0 c : Cx) (a : Act), (∀ o ∈ l, o.dst.all (· < N) = true) →
    sopsE E P ops Q l sa h n → E.inv c → Rel h c → Fr n c → FR E N sa c a → Adv n0 c0 n c → wpListIn E.fc 0 P ops (Lift E N n0 c0 Qp) l a c.w
  | [], sa, h, n, n0, c0, c, a, _, H, I, R, F, A, X => ⟨sa, h, n, c, hQ _ _ _ H, rfl, R, F, A, X⟩
  | o :: rest, sa, h, n, n0, c0, c, a, hd, H, I, R, F, A, X => by
    have hdo : ∀ d, o.dst = some d → d < N := fun d e => by have := hd o (by simp); rw [e] at this; simpa using this
    simp only [sopsE] at H
    simp only [wpListIn]
    split at H
    case h_2 => exact H.elim
    rename_i b hg
    cases b
    case true =>
      rw [if_pos rfl] at H
      rw [guard_rel A hg, if_pos rfl]
      refine stepE_sound H I R F A fun v h' n' c' u hk hv R' F' X' => ?_
      exact sopsE_sound Qp hQ rest _ h' n' n0 c0 c' _ (fun o ho => hd o (by simp [ho])) hk (E.ext X'.ext I) R' F' ((A.ext X'.ext).put hdo hv) (X.trans X')
    case false =>
      rw [guard_rel A hg]
      simp only [Bool.false_eq_true, if_false] at H ⊢
      exact ⟨fun _ _ => trivial, sopsE_sound Qp hQ rest _ h n n0 c0 c _ (fun o ho => hd o (by simp [ho])) H I R F (A.put hdo V_undef) X⟩
theorem SWE_region {id : Nat} {Q : Post} {sa : SA} {h : Hp} {n : Nat} (H : sopsE E P ops (Q .normal) ops.toList sa h n) : SWE E P N (.region id ops false) Q sa h n := by
  intro hd c a I R F A
  simp only [Code.dok, List.all_eq_true] at hd
  exact wpIn_region_list (sopsE_sound Q (fun _ _ _ h => h) _ sa h n n c c a hd H I R F A (Adv.refl n c))
theorem SWE_mono {code : Code} {Q Q' : Post} {sa : SA} {h : Hp} {n : Nat} (H : SWE E P N code Q sa h n) (hq : ∀ e sa h n, Q e sa h n → Q' e sa h n) : SWE E P N code Q' sa h n :=
  fun hd c a I R F A => wpIn_mono (H hd c a I R F A) fun _ _ _ ⟨sa', h', n', c', q, r⟩ => ⟨sa', h', n', c', hq _ _ _ _ q, r⟩
theorem SWE_skip {Q : Post} {sa : SA} {h : Hp} {n : Nat} (H : Q .normal sa h n) : SWE E P N .skip Q sa h n :=
  fun _ c _ _I R F A => wpIn_skip ⟨sa, h, n, c, H, rfl, R, F, A, Adv.refl n c⟩
theorem SWE_exit {id : Nat} {Q : Post} {sa : SA} {h : Hp} {n : Nat} (H : Q (.exit id) sa h n) : SWE E P N (.exit id) Q sa h n :=
  fun _ c _ _I R F A => wpIn_exit ⟨sa, h, n, c, H, rfl, R, F, A, Adv.refl n c⟩
theorem SWE_ret {Q : Post} {sa : SA} {h : Hp} {n : Nat} (H : Q .ret sa h n) : SWE E P N .ret Q sa h n :=
  fun _ c _ _I R F A => wpIn_ret ⟨sa, h, n, c, H, rfl, R, F, A, Adv.refl n c⟩
def thenQ (K : SA → Hp → Nat → Prop) (Q : Post) : Post
  | .normal => K
  | e => Q e
theorem SWE_seq {x y : Code} {Q : Post} {sa : SA} {h : Hp} {n : Nat} (H : SWE E P N x (thenQ (SWE E P N y Q) Q) sa h n) : SWE E P N (.seq x y) Q sa h n := by
  intro hd c a I R F A
  simp only [Code.dok, Bool.and_eq_true] at hd
  refine wpIn_seq (wpIn_mono (H hd.1 c a I R F A) ?_)
  rintro e a' w' ⟨sa', h', n', c', q, rfl, R', F', A', X⟩
  cases e with
  | normal =>
    refine wpIn_mono (q hd.2 c' a' (E.ext X.ext I) R' F' A') ?_
    rintro e2 a2 w2 ⟨sa2, h2, n2, c2, q2, hw2, R2, F2, A2, E2⟩
    exact ⟨sa2, h2, n2, c2, q2, hw2, R2, F2, A2, X.trans E2⟩
  | _ => exact ⟨sa', h', n', c', q, rfl, R', F', A', X⟩
theorem SWE_cond {x : Operand} {y z : Code} {b : Bool} {Q : Post} {sa : SA} {h : Hp} {n : Nat} (hb : evS sa x = .bool b) (H : SWE E P N (if b then y else z) Q sa h n) : SWE E P N (.cond x y z) Q sa h n := by
  intro hd c a I R F A
  simp only [Code.dok, Bool.and_eq_true] at hd
  have hv := A.ev x
  rw [hb] at hv
  refine wpIn_cond (vbool hv) ?_
  cases b
  · exact H hd.2 c a I R F A
  · exact H hd.1 c a I R F A
def blockQ (id : Nat) (Q : Post) : Post
  | .exit id' => fun sa h n => if id' = id then Q .normal sa h n else Q (.exit id') sa h n
  | e => Q e
theorem SWE_block {id : Nat} {x : Code} {Q : Post} {sa : SA} {h : Hp} {n : Nat} (H : SWE E P N x (blockQ id Q) sa h n) : SWE E P N (.block id x) Q sa h n := by
  intro hd c a I R F A
  simp only [Code.dok] at hd
  refine wpIn_block (wpIn_mono (H hd c a I R F A) ?_)
  rintro e a' w' ⟨sa', h', n', c', q, hw, R', F', A', X⟩
  cases e with
  | exit id' =>
    simp only [blockQ] at q
    simp only [Exit.inBlock]
    split
    · rename_i e; rw [if_pos e] at q; exact ⟨sa', h', n', c', q, hw, R', F', A', X⟩
    · rename_i e; rw [if_neg e] at q; exact ⟨sa', h', n', c', q, hw, R', F', A', X⟩
  | _ => exact ⟨sa', h', n', c', q, hw, R', F', A', X⟩
theorem SWE_weaken {code : Code} {Q : Post} {sa sb : SA} {h : Hp} {n : Nat} (H : SWE E P N code Q sb h n) (hw : ∀ p ∈ sb, look sa p.1 = p.2) : SWE E P N code Q sa h n :=
  fun hd c a I R F A => H hd c a I R F (A.weaken hw)
theorem SWE_loop {x : Code} {Q : Post} {sa : SA} {h : Hp} {n : Nat} (μ : Nat) (J : Nat → SA → Hp → Nat → Prop) (h0 : J μ sa h n)
    (round : ∀ m sa h n, J m sa h n → SWE E P N x (thenQ (fun sa' h' n' => ∃ m', m' < m ∧ J m' sa' h' n') Q) sa h n) : SWE E P N (.loop x) Q sa h n := by
  intro hd c a I R F A
  have hd' : Code.dok N x = true := by simpa [Code.dok] using hd
  classical
  let L : Nat → Act → World → Prop := fun m a' w' => ∃ sa' h' n' c', J m sa' h' n' ∧ c'.w = w' ∧ Rel h' c' ∧ Fr n' c' ∧ FR E N sa' c' a' ∧ Adv n c n' c'
  have hex : ∀ (a' : Act) (w' : World), (∃ m, L m a' w') → ∃ m, L m a' w' ∧ ∀ k, k < m → ¬ L k a' w' := by
    intro a' w' ⟨m, hm⟩
    induction m using Nat.strongRecOn with
    | _ m ih =>
      by_cases hk : ∃ k, k < m ∧ L k a' w'
      · obtain ⟨k, hk, hl⟩ := hk; exact ih k hk hl
      · exact ⟨m, hm, fun k hk' hl => hk ⟨k, hk', hl⟩⟩
  let μ' : Act → World → Nat := fun a' w' => if hx : ∃ m, L m a' w' then (hex a' w' hx).choose else 0
  have hμ : ∀ a' w' m, L m a' w' → L (μ' a' w') a' w' ∧ μ' a' w' ≤ m := by
    intro a' w' m hm
    have hx : ∃ m, L m a' w' := ⟨m, hm⟩
    have := (hex a' w' hx).choose_spec
    have e : μ' a' w' = (hex a' w' hx).choose := by simp only [μ', hx, dif_pos]
    rw [e]
    exact ⟨this.1, Nat.le_of_not_lt fun hlt => this.2 m hlt hm⟩
  refine wpIn_loop (I := fun a' w' => ∃ m, L m a' w') (μ := μ') ⟨μ, sa, h, n, c, h0, rfl, R, F, A, Adv.refl n c⟩ ?_
  intro a1 w1 ⟨m, hm⟩
  obtain ⟨⟨sa1, h1, n1, c1, hJ, hw, R1, F1, A1, E1⟩, hle⟩ := hμ a1 w1 m hm
  subst hw
  refine wpIn_mono (round _ sa1 h1 n1 hJ hd' c1 a1 (E.ext E1.ext I) R1 F1 A1) ?_
  rintro e a2 w2 ⟨sa2, h2, n2, c2, q, hw2, R2, F2, A2, E2⟩
  cases e with
  | normal =>
    obtain ⟨m', hlt, hJ'⟩ := q
    have hL : L m' a2 w2 := ⟨sa2, h2, n2, c2, hJ', hw2, R2, F2, A2, E1.trans E2⟩
    exact ⟨⟨m', hL⟩, Nat.lt_of_le_of_lt (hμ a2 w2 m' hL).2 hlt⟩
  | _ => exact ⟨sa2, h2, n2, c2, q, hw2, R2, F2, A2, E1.trans E2⟩
end
abbrev SCall := SCallE Env.plain
theorem SCallE.lift {E : Env} {P : Program} {f : FuncId} {args : List SV} {h : Hp} {n : Nat} {Q : SV → Hp → Nat → Prop} (H : SCallE Env.plain P f args h n Q) : SCallE E P f args h n Q :=
  ⟨H.1, fun c vs _ R F A => H.2 c vs trivial R F A⟩
mutual
def closed (n : Nat) : SV → Bool
  | .agg cs => closedL n cs
  | .tup cs => closedL n cs
  | .fn _ a b => closedL n a && closedL n b
  | .ptr o _ => decide (o < n)
  | .iptr cs => closedL n cs
  | .sl o _ _ _ _ => decide (o < n)
  | .slc o _ _ _ _ => decide (o < n)
  | .imm _ es _ => closedL n es
  | .map o => decide (o < n)
  | .yl o => decide (o < n)
  | _ => true
def closedL (n : Nat) : List SV → Bool
  | [] => true
  | s :: ss => closed n s && closedL n ss
end
def closedO (n : Nat) : SObj → Bool
  | .cells cs _ => closedL n cs
  | .map es => es.all fun p => closed n p.1 && closed n p.2
  | .loop _ => true
  | .sit _ _ => true
  | .iter left last => (left.all fun p => closed n p.1 && closed n p.2) && last.all fun p => closed n p.1 && closed n p.2
  | .list _ es => closedL n (es.flatMap SV.cells)
theorem closedL_iff {n : Nat} : ∀ {l : List SV}, closedL n l = true ↔ ∀ s ∈ l, closed n s = true
  | [] => by simp [closedL]
  | s :: ss => by simp [closedL, closedL_iff (l := ss)]
mutual
theorem closed_of_V {c : Cx} {n : Nat} (F : Fr n c) : ∀ {s : SV} {v : Value}, V c s v → closed n s = true
  | .agg cs, v, h => by rw [V] at h; obtain ⟨vs, _, hl, _⟩ := h; rw [closed]; exact closed_of_VL F hl
  | .tup cs, v, h => by rw [V] at h; obtain ⟨vs, _, hl⟩ := h; rw [closed]; exact closed_of_VL F hl
  | .fn f a b, v, h => by rw [V] at h; obtain ⟨xs, ys, _, h1, h2⟩ := h; rw [closed, closed_of_VL F h1, closed_of_VL F h2]; rfl
  | .ptr o off, v, h => by
    rw [V] at h; obtain ⟨b, st, h1, _⟩ := h; rw [closed]
    exact decide_eq_true (Nat.lt_of_not_le fun hl => by rw [F o hl] at h1; cases h1)
  | .iptr cs, v, h => by rw [V] at h; obtain ⟨a, vs, _, _, hl, _⟩ := h; rw [closed]; exact closed_of_VL F hl
  | .sl o _ _ _ _, v, h => by
    rw [V] at h; obtain ⟨b, st, cap, h1, _⟩ := h; rw [closed]
    exact decide_eq_true (Nat.lt_of_not_le fun hl => by rw [F o hl] at h1; cases h1)
  | .slc o _ _ _ _, v, h => by
    rw [V] at h; obtain ⟨b, st, h1, _⟩ := h; rw [closed]
    exact decide_eq_true (Nat.lt_of_not_le fun hl => by rw [F o hl] at h1; cases h1)
  | .imm z es full, v, h => by
    rw [V] at h; rw [closed]
    rcases h with ⟨rfl, _⟩ | ⟨a, cap, vs, _, _, _, _, hE⟩
    · rfl
    · exact closed_of_VE F hE
  | .map o, v, h => by
    rw [V] at h; obtain ⟨b, h1, _⟩ := h; rw [closed]
    exact decide_eq_true (Nat.lt_of_not_le fun hl => by rw [F o hl] at h1; cases h1)
  | .yl o, v, h => by
    rw [V] at h; obtain ⟨b, h1, _⟩ := h; rw [closed]
    exact decide_eq_true (Nat.lt_of_not_le fun hl => by rw [F o hl] at h1; cases h1)
  | .bool _, _, _ => rfl
  | .int _ _, _, _ => rfl
  | .str _, _, _ => rfl
  | .nilp, _, _ => rfl
  | .nilf, _, _ => rfl
  | .nilm, _, _ => rfl
  | .nils, _, _ => rfl
  | .junk, _, _ => rfl
theorem closed_of_VL {c : Cx} {n : Nat} (F : Fr n c) : ∀ {s : List SV} {v : List Value}, VL c s v → closedL n s = true
  | [], _, _ => rfl
  | s :: ss, v, h => by rw [VL] at h; obtain ⟨u, r, _, h1, h2⟩ := h; rw [closedL, closed_of_V F h1, closed_of_VL F h2]; rfl
theorem closed_of_VE {c : Cx} {n z : Nat} (F : Fr n c) : ∀ {s : List SV} {v : List Value}, VE c z s v → closedL n s = true
  | [], _, _ => rfl
  | s :: ss, v, h => by rw [VE] at h; obtain ⟨u, r, _, _, _, h1, h2⟩ := h; rw [closedL, closed_of_V F h1, closed_of_VE F h2]; rfl
end
theorem closedO_of {c : Cx} {n o : Nat} {x : SObj} (F : Fr n c) (h : ObjRel c o x) : o < n ∧ closedO n x = true := by
  refine ⟨?_, ?_⟩
  · obtain ⟨b, st, h1, _⟩ := h.block
    exact Nat.lt_of_not_le fun hl => by rw [F o hl] at h1; cases h1
  · cases x with
    | cells cs ty => obtain ⟨b, st, arr, e, vs, _, _, _, h4, _⟩ := h; exact closed_of_VL F (VL_iff.2 h4)
    | map es =>
      obtain ⟨b, ents, clock, _, _, h3, _⟩ := h
      simp only [closedO, List.all_eq_true, Bool.and_eq_true]
      intro p hp
      obtain ⟨i, hi⟩ := List.getElem?_of_mem hp
      obtain ⟨e, _, h4, h5⟩ := h3.get hi
      exact ⟨closed_of_V F h4, closed_of_V F h5⟩
    | loop r => rfl
    | sit s pos => rfl
    | iter left last =>
      obtain ⟨b, bm, ents, clock, seen, _, _, _, _, _, h3, h7⟩ := h
      simp only [closedO, List.all_eq_true, Bool.and_eq_true, Option.all_eq_true]
      refine ⟨fun p hp => ?_, fun p hp => ?_⟩
      · obtain ⟨i, hi⟩ := List.getElem?_of_mem hp
        obtain ⟨e, _, h4, h5⟩ := h3.get hi
        exact ⟨closed_of_V F h4, closed_of_V F h5⟩
      · obtain ⟨e, _, _, h4, h5⟩ := h7 p hp
        exact ⟨closed_of_V F h4, closed_of_V F h5⟩
    | list z es =>
      obtain ⟨b, st0, arr, e, v, _, _, _, _, ⟨rfl, _, _⟩ | ⟨B, st, arr2, e2, vs, cap, _, _, _, _, _, _, _, _, h8, _⟩⟩ := h
      · rfl
      · exact closed_of_VL F (VL_iff.2 h8)
def Cx.cut (c : Cx) (h : Hp) (n : Nat) : Cx :=
  { ρ := fun j => if j < n then c.ρ j else none, own := fun b => ∃ o x, h o = some x ∧ o < n ∧ hold c o x b, w := c.w, bk := c.bk }
section
variable {c : Cx} {h h2 : Hp} {n : Nat}
theorem cut_own (R : Rel h c) (hs : ∀ o x, h2 o = some x → h o = some x) {b : Nat} (hb : (c.cut h2 n).own b) : c.own b := by
  obtain ⟨o, x, e1, _, e2⟩ := hb
  exact (R.own2 b).2 ⟨o, x, hs o x e1, e2⟩
theorem Still.cut (R : Rel h c) (hs : ∀ o x, h2 o = some x → h o = some x) {a : Addr} {vs : List Value} (g : Still c a vs) : Still (c.cut h2 n) a vs :=
  ⟨g.spot, fun hv hb => g.free hv (cut_own R hs hb), g.cell, g.one⟩
mutual
theorem V.cut (R : Rel h c) (hs : ∀ o x, h2 o = some x → h o = some x) : ∀ {s : SV} {v : Value}, closed n s = true → V c s v → V (c.cut h2 n) s v
  | .agg cs, v, hc, g => by rw [V] at *; rw [closed] at hc; obtain ⟨vs, e, hl, ho⟩ := g; exact ⟨vs, e, VL.cut R hs hc hl, ho⟩
  | .tup cs, v, hc, g => by rw [V] at *; rw [closed] at hc; obtain ⟨vs, e, hl⟩ := g; exact ⟨vs, e, VL.cut R hs hc hl⟩
  | .fn f a b, v, hc, g => by rw [V] at *; rw [closed, Bool.and_eq_true] at hc; obtain ⟨xs, ys, e, h1, h2⟩ := g; exact ⟨xs, ys, e, VL.cut R hs hc.1 h1, VL.cut R hs hc.2 h2⟩
  | .ptr o off, v, hc, g => by rw [V] at *; rw [closed] at hc; obtain ⟨b, st, h1, h2⟩ := g; exact ⟨b, st, by simp [Cx.cut, of_decide_eq_true hc, h1], h2⟩
  | .iptr cs, v, hc, g => by rw [V] at *; rw [closed] at hc; obtain ⟨a, vs, e, h1, h2, h3⟩ := g; exact ⟨a, vs, e, h1.cut R hs, VL.cut R hs hc h2, h3⟩
  | .sl o off z len full, v, hc, g => by rw [V] at *; rw [closed] at hc; obtain ⟨b, st, cap, h1, h2⟩ := g; exact ⟨b, st, cap, by simp [Cx.cut, of_decide_eq_true hc, h1], h2⟩
  | .slc o off z len cap, v, hc, g => by rw [V] at *; rw [closed] at hc; obtain ⟨b, st, h1, h2⟩ := g; exact ⟨b, st, by simp [Cx.cut, of_decide_eq_true hc, h1], h2⟩
  | .imm z es full, v, hc, g => by
    rw [V] at *; rw [closed] at hc
    rcases g with g | ⟨a, cap, vs, e, h1, h2, h3, h4⟩
    · exact .inl g
    · exact .inr ⟨a, cap, vs, e, h1, h2, h3.cut R hs, VE.cut R hs hc h4⟩
  | .map o, v, hc, g => by rw [V] at *; rw [closed] at hc; obtain ⟨b, h1, h2⟩ := g; exact ⟨b, by simp [Cx.cut, of_decide_eq_true hc, h1], h2⟩
  | .yl o, v, hc, g => by rw [V] at *; rw [closed] at hc; obtain ⟨b, h1, h2⟩ := g; exact ⟨b, by simp [Cx.cut, of_decide_eq_true hc, h1], h2⟩
  | .bool _, _, _, g => g
  | .int _ _, _, _, g => g
  | .str _, _, _, g => g
  | .nilp, _, _, g => g
  | .nilf, _, _, g => g
  | .nilm, _, _, g => g
  | .nils, _, _, g => g
  | .junk, _, _, _ => trivial
theorem VL.cut (R : Rel h c) (hs : ∀ o x, h2 o = some x → h o = some x) : ∀ {s : List SV} {v : List Value}, closedL n s = true → VL c s v → VL (c.cut h2 n) s v
  | [], _, _, g => by rw [VL] at *; exact g
  | s :: ss, v, hc, g => by rw [VL] at *; rw [closedL, Bool.and_eq_true] at hc; obtain ⟨u, r, e, h1, h2⟩ := g; exact ⟨u, r, e, V.cut R hs hc.1 h1, VL.cut R hs hc.2 h2⟩
theorem VE.cut (R : Rel h c) (hs : ∀ o x, h2 o = some x → h o = some x) {z : Nat} : ∀ {s : List SV} {v : List Value}, closedL n s = true → VE c z s v → VE (c.cut h2 n) z s v
  | [], _, _, g => by rw [VE] at *; exact g
  | s :: ss, v, hc, g => by rw [VE] at *; rw [closedL, Bool.and_eq_true] at hc; obtain ⟨u, r, e, hz, hst, h1, h2⟩ := g; exact ⟨u, r, e, hz, hst, V.cut R hs hc.1 h1, VE.cut R hs hc.2 h2⟩
end
theorem Rel.cut (R : Rel h c) (hs : ∀ o x, h2 o = some x → h o = some x ∧ o < n ∧ closedO n x = true) : Rel h2 (c.cut h2 n) := by
  have hs' : ∀ o x, h2 o = some x → h o = some x := fun o x e => (hs o x e).1
  have hh : ∀ o x b, o < n → (hold (c.cut h2 n) o x b ↔ hold c o x b) := fun o x b ho => by simp [hold, Cx.cut, ho]
  refine ⟨fun o x e => ?_, fun i j x y b e1 e2 e3 e4 => ?_, fun b => ?_⟩
  · obtain ⟨e1, e2, e3⟩ := hs o x e
    have g := R.obj o x e1
    cases x with
    | cells cs ty =>
      obtain ⟨b, st, arr, el, vs, h1, h2', h3, h4, h5⟩ := g
      exact ⟨b, st, arr, el, vs, by simp [Cx.cut, e2, h1], h2', h3, VL_iff.1 (VL.cut R hs' e3 (VL_iff.2 h4)), h5⟩
    | map es =>
      obtain ⟨b, ents, clock, h1, h2', h3, hB⟩ := g
      simp only [closedO, List.all_eq_true, Bool.and_eq_true] at e3
      refine ⟨b, ents, clock, by simp [Cx.cut, e2, h1], h2', All2.of_get h3.length fun i p q hp hq => ?_, hB⟩
      obtain ⟨q', hq', h4, h5⟩ := h3.get hp
      rw [hq] at hq'; cases hq'
      have := e3 p (List.mem_of_getElem? hp)
      exact ⟨V.cut R hs' this.1 h4, V.cut R hs' this.2 h5⟩
    | iter left last =>
      obtain ⟨b, bm, ents, clock, seen, h1, h2', h3, h4, h5, h6, h7⟩ := g
      simp only [closedO, List.all_eq_true, Bool.and_eq_true, Option.all_eq_true] at e3
      refine ⟨b, bm, ents, clock, seen, by simp [Cx.cut, e2, h1], h2', h3, ?_, h5, All2.of_get h6.length fun i p q hp hq => ?_, fun p hp => ?_⟩
      · exact fun hb => h4 (cut_own R hs' hb)
      · obtain ⟨q', hq', h4, h5⟩ := h6.get hp
        rw [hq] at hq'; cases hq'
        have := e3.1 p (List.mem_of_getElem? hp)
        exact ⟨V.cut R hs' this.1 h4, V.cut R hs' this.2 h5⟩
      · obtain ⟨e, g1, g2, g3, g4⟩ := h7 p hp
        have := e3.2 p hp
        exact ⟨e, g1, g2, V.cut R hs' this.1 g3, V.cut R hs' this.2 g4⟩
    | loop r =>
      obtain ⟨b, h1, h2'⟩ := g
      exact ⟨b, by simp [Cx.cut, e2, h1], h2'⟩
    | sit s pos =>
      obtain ⟨b, h1, h2'⟩ := g
      exact ⟨b, by simp [Cx.cut, e2, h1], h2'⟩
    | list z es =>
      obtain ⟨b, st0, arr, e, v, h1, h2', h3, h4, h5⟩ := g
      refine ⟨b, st0, arr, e, v, by simp [Cx.cut, e2, h1], h2', h3, h4, ?_⟩
      rcases h5 with ⟨g1, g2, g3⟩ | ⟨B, st, arr2, e2, vs, cap, g1, gb, g2, g3, g4, g5, g6, g7, g8, g9⟩
      · exact .inl ⟨g1, g2, V.cut R hs' (by rfl) g3⟩
      · exact .inr ⟨B, st, arr2, e2, vs, cap, g1, gb, g2, g3, g4, g5, g6, g7, VL_iff.1 (VL.cut R hs' e3 (VL_iff.2 g8)), g9⟩
  · exact R.inj2 i j x y b (hs' _ _ e1) (hs' _ _ e2) ((hh i x b (hs i x e1).2.1).1 e3) ((hh j y b (hs j y e2).2.1).1 e4)
  · constructor
    · rintro ⟨o, x, e1, e2, e3⟩; exact ⟨o, x, e1, (hh o x b e2).2 e3⟩
    · rintro ⟨o, x, e1, e2⟩
      have := (hs o x e1).2.1
      exact ⟨o, x, e1, this, (hh o x b this).1 e2⟩
theorem cut_fr : Fr n (c.cut h2 n) := fun j hj => by simp [Cx.cut, Nat.not_lt.2 hj]
theorem cut_ext {c0 : Cx} {n0 : Nat} (R : Rel h c) (hs : ∀ o x, h2 o = some x → h o = some x) (F0 : Fr n0 c0) (hn : n0 ≤ n) (E : Ext c0 c) : Ext c0 (c.cut h2 n) := by
  refine ⟨fun o p e => ?_, E.size, fun b hb ho => ⟨fun g => (E.keep b hb ho).1 (cut_own R hs g), (E.keep b hb ho).2⟩, E.room, E.os, E.out, E.td⟩
  have : o < n0 := Nat.lt_of_not_le fun hl => by rw [F0 o hl] at e; cases e
  simp only [Cx.cut, show o < n by omega, if_true]
  exact E.ρ o p e
end
def Cx.less (c : Cx) (h : Hp) : Cx := { c with own := fun b => ∃ o x, h o = some x ∧ hold c o x b }
section
variable {c : Cx} {h h2 : Hp}
theorem less_ext (R : Rel h c) (hs : ∀ o x, h2 o = some x → h o = some x) : Ext c (c.less h2) :=
  ⟨fun _ _ e => e, Nat.le_refl _, fun b _ hb => ⟨fun ⟨o, x, e1, e2⟩ => hb ((R.own2 b).2 ⟨o, x, hs o x e1, e2⟩), rfl⟩, fun _ => Nat.le_refl _, rfl, rfl, ⟨rfl, Nat.le_refl _⟩⟩
theorem Rel.less (R : Rel h c) (hs : ∀ o x, h2 o = some x → h o = some x) : Rel h2 (c.less h2) :=
  ⟨fun o x e => (R.obj o x (hs o x e)).mono (less_ext R hs) fun _ _ => rfl, fun i j x y b e1 e2 e3 e4 => R.inj2 i j x y b (hs _ _ e1) (hs _ _ e2) e3 e4, fun _ => Iff.rfl⟩
end
def Fz (h h2 : Hp) : Nat → SV → SV → Prop
  | 0, v, r => v = r
  | k + 1, v, r => v = r ∨
    match v, r with
    | _, .junk => True
    | .sl o off z len full, .imm z' es full' => h2 o = none ∧ (full' = true → full = true) ∧ es.length = len ∧ z' = z ∧ ∃ cs xs, h o = some (.cells cs) ∧ takeN cs off (len * z) = some xs ∧
        (∀ e ∈ es, e.storable = true ∧ e.cells.length = z) ∧ All2 (Fz h h2 k) xs (es.flatMap SV.cells)
    | .ptr o off, .iptr ds => h2 o = none ∧ ∃ cs, h o = some (.cells cs) ∧ off ≤ cs.length ∧ All2 (Fz h h2 k) (cs.drop off) ds
    | .agg cs, .agg ds => All2 (Fz h h2 k) cs ds
    | .tup cs, .tup ds => All2 (Fz h h2 k) cs ds
    | .fn f a b, .fn f' a' b' => f = f' ∧ All2 (Fz h h2 k) a a' ∧ All2 (Fz h h2 k) b b'
    | .iptr cs, .iptr ds => All2 (Fz h h2 k) cs ds
    | .imm z es full, .imm z' es' full' => (full' = true → full = true) ∧ (es = [] ∨ z' = z) ∧ All2 (Fz h h2 k) es es' ∧ ∀ e ∈ es', e.storable = true
    | .slc o off z len cap, .sl o' off' z' len' full' => o' = o ∧ off' = off ∧ z' = z ∧ len' = len ∧ (full' = true → cap = len)
    | _, _ => False
theorem Fz.same {h h2 : Hp} : ∀ {k : Nat} {v : SV}, Fz h h2 k v v
  | 0, _ => Eq.refl _
  | _ + 1, _ => .inl (Eq.refl _)
theorem All2.trans3 {α β γ : Type} {R : α → β → Prop} {S : α → γ → Prop} {T : γ → β → Prop} (hrs : ∀ a b g, R a b → S a g → T g b) : ∀ {aS : List α} {bs : List β} {gs : List γ}, All2 R aS bs → All2 S aS gs → All2 T gs bs
  | [], [], [], _, _ => trivial
  | _ :: _, _ :: _, _ :: _, h, g => ⟨hrs _ _ _ h.1 g.1, All2.trans3 hrs h.2 g.2⟩
  | [], _ :: _, _, h, _ => h.elim
  | _ :: _, [], _, h, _ => h.elim
  | [], [], _ :: _, _, g => g.elim
  | _ :: _, _ :: _, [], _, g => g.elim
theorem chunks {c : Cx} {z : Nat} : ∀ {es : List SV} {vs : List Value}, (∀ e ∈ es, e.storable = true ∧ e.cells.length = z) → All2 (V c) (es.flatMap SV.cells) vs → (∀ x ∈ vs, x.oneCell' = true) → VE c z es vs
  | [], vs, _, h, _ => by rw [VE]; exact h.nil_left
  | e :: es, vs, he, h, h1 => by
    rw [VE]
    simp only [List.flatMap_cons] at h
    have hl := h.length
    obtain ⟨hst, hz⟩ := he e (by simp)
    have hA : All2 (V c) e.cells (vs.take z) := by have := h.take z; rwa [List.take_left' hz] at this
    have hB : All2 (V c) (es.flatMap SV.cells) (vs.drop z) := by have := h.drop z; rwa [List.drop_left' hz] at this
    have h1A : ∀ x ∈ vs.take z, x.oneCell' = true := fun x hx => h1 x (List.mem_of_mem_take hx)
    have hzl : (vs.take z).length = z := by rw [← hA.length]; exact hz
    obtain ⟨u, hu1, hu2, hu3⟩ : ∃ u : Value, u.cells.toList = vs.take z ∧ u.cells.size = z ∧ V c e u := by
      by_cases hag : ∃ cs, e = .agg cs
      · obtain ⟨cs, rfl⟩ := hag
        exact ⟨.agg (vs.take z).toArray, by simp [Value.cells], by simp only [Value.cells, List.size_toArray]; exact hzl, by rw [V]; exact ⟨_, rfl, VL_iff.2 hA, h1A⟩⟩
      · have hc : e.cells = [e] := by cases e <;> simp [SV.cells] at hag ⊢
        rw [hc] at hA
        obtain ⟨u, hu, hv⟩ := hA.single
        have ho := h1A u (by rw [hu]; simp)
        have hcu : u.cells = #[u] := by cases u <;> simp [Value.oneCell'] at ho <;> rfl
        rw [hc] at hz
        exact ⟨u, by rw [hcu, hu], by rw [hcu]; simpa using hz, hv⟩
    exact ⟨u, vs.drop z, by rw [hu1, List.take_append_drop], hu2, hst, hu3, chunks (fun x hx => he x (by simp [hx])) hB fun x hx => h1 x (List.mem_of_mem_drop hx)⟩
theorem Fz.sound {c : Cx} {h h2 : Hp} (R : Rel h c) (hs : ∀ o x, h2 o = some x → h o = some x) : ∀ (k : Nat) {v r : SV} {u : Value}, Fz h h2 k v r → V c v u → V (c.less h2) r u
  | 0, v, r, u, hf, hv => by cases hf; exact hv.mono (less_ext R hs)
  | k + 1, v, r, u, hf, hv => by
    have ih : ∀ {v r : SV} {u : Value}, Fz h h2 k v r → V c v u → V (c.less h2) r u := fun hf hv => Fz.sound R hs k hf hv
    have ihL : ∀ {aS bs : List SV} {us : List Value}, All2 (Fz h h2 k) aS bs → All2 (V c) aS us → All2 (V (c.less h2)) bs us := fun hf hv => All2.trans3 (R := V c) (S := Fz h h2 k) (T := V (c.less h2)) (fun a b g h1 h2 => ih h2 h1) hv hf
    have notown : ∀ o b st x, h2 o = none → h o = some x → c.ρ o = some (b, st) → ¬ (c.less h2).own b := fun o b st x hn ho hρ => by
      rintro ⟨o', x', e1, e3⟩
      have := R.inj2 o o' x x' b ho (hs _ _ e1) (.inl ⟨st, hρ⟩) e3
      subst this
      rw [hn] at e1; cases e1
    rcases hf with rfl | hf
    · exact hv.mono (less_ext R hs)
    · split at hf
      · simp [V]
      · rename_i o off z len full z' es full'
        obtain ⟨hn, hfl, hlen, rfl, cs, xs, ho, htk, hes, hall⟩ := hf
        rw [V] at hv
        obtain ⟨b, st, cap, hρ, rfl, hcap, hfull, _⟩ := hv
        obtain ⟨b', st', vs, hρ', hc, h1, hcell⟩ := (R.obj _ _ ho).cell
        rw [hρ] at hρ'; cases hρ'
        obtain ⟨hle, rfl⟩ := takeN_some htk
        have h1' : ∀ x ∈ (vs.drop off).take (len * z'), x.oneCell' = true := fun x hx => h1 x (List.mem_of_mem_drop (List.mem_of_mem_take hx))
        have hfr := ihL hall ((hc.drop off).take (len * z'))
        rw [V]
        refine .inr ⟨⟨b, st + off, none⟩, cap, (vs.drop off).take (len * z'), by rw [hlen], by rw [hlen]; exact hcap, fun hf => by rw [hlen]; exact hfull (hfl hf), ⟨fun _ => rfl, fun _ => notown o b st _ hn ho hρ, fun i x hx => ?_, h1'⟩, chunks hes hfr h1'⟩
        rw [List.getElem?_take] at hx
        split at hx
        · rw [List.getElem?_drop] at hx
          simp only [Nat.add_assoc]
          exact hcell _ _ hx
        · cases hx
      · rename_i o off ds
        obtain ⟨hn, cs, ho, hle, hall⟩ := hf
        rw [V] at hv
        obtain ⟨b, st, hρ, rfl⟩ := hv
        obtain ⟨b', st', vs, hρ', hc, h1, hcell⟩ := (R.obj _ _ ho).cell
        rw [hρ] at hρ'; cases hρ'
        rw [V]
        refine ⟨⟨b, st + off, none⟩, vs.drop off, rfl, ⟨fun _ => rfl, fun _ => notown o b st _ hn ho hρ, fun i x hx => ?_, fun x hx => h1 x (List.mem_of_mem_drop hx)⟩, VL_iff.2 (ihL hall (hc.drop off)), rfl⟩
        rw [List.getElem?_drop] at hx
        simp only [Nat.add_assoc]
        exact hcell _ _ hx
      · rw [V] at hv ⊢
        obtain ⟨vs, e, hl, h1⟩ := hv
        exact ⟨vs, e, VL_iff.2 (ihL hf (VL_iff.1 hl)), h1⟩
      · rw [V] at hv ⊢
        obtain ⟨vs, e, hl⟩ := hv
        exact ⟨vs, e, VL_iff.2 (ihL hf (VL_iff.1 hl))⟩
      · obtain ⟨rfl, h1, h2⟩ := hf
        rw [V] at hv ⊢
        obtain ⟨xs, ys, e, hl, hl2⟩ := hv
        exact ⟨xs, ys, e, VL_iff.2 (ihL h1 (VL_iff.1 hl)), VL_iff.2 (ihL h2 (VL_iff.1 hl2))⟩
      · rw [V] at hv ⊢
        obtain ⟨a, vs, e, hst, hl, hsp⟩ := hv
        exact ⟨a, vs, e, hst.mono (less_ext R hs), VL_iff.2 (ihL hf (VL_iff.1 hl)), hsp⟩
      · rename_i z es full z' es' full'
        obtain ⟨hfl, hz, hall, hst'⟩ := hf
        rw [V] at hv ⊢
        have hlen := hall.length
        rcases hv with ⟨rfl, e⟩ | ⟨a, cap, vs, e, h1, h2, h3, h4⟩
        · exact .inl ⟨by simpa using hlen.symm, e⟩
        · obtain ⟨us, g1, g2, g3, g4⟩ := VE_iff.1 h4
          refine .inr ⟨a, cap, vs, by rw [e, hlen], by omega, fun hf => by rw [h2 (hfl hf), hlen], h3.mono (less_ext R hs), VE_iff.2 ⟨us, ihL hall g1, ?_, hst', g4⟩⟩
          rcases hz with rfl | rfl
          · intro u hu; rw [g1.nil_left] at hu; cases hu
          · exact g2
      · obtain ⟨rfl, rfl, rfl, rfl, hfl⟩ := hf
        have hv2 := hv.mono (less_ext R hs)
        simp only [V] at hv2 ⊢
        obtain ⟨b, st, h1, h2, h3, h4⟩ := hv2
        exact ⟨b, st, _, h1, h2, h3, hfl, h4⟩
      · exact hf.elim
def resS (P : Program) (sa : SA) (h : Hp) : List ResultVar → Option (List SV)
  | [] => some []
  | .tmp t :: r => (resS P sa h r).map (look sa t :: ·)
  | .cell a t :: r => match loadS P h t (look sa a), resS P sa h r with | some v, some vs => some (v :: vs) | _, _ => none
def packS : List SV → SV
  | [v] => v
  | vs => .tup vs
def initSA : Nat → List SV → SA
  | _, [] => []
  | i, a :: aS => (i, a) :: initSA (i + 1) aS
def RetS (n : Nat) (h' : Hp) (n' : Nat) (v : SV) (K : SV → Hp → Nat → Prop) : Prop :=
  K v h' n' ∨ ∃ k r h2, Fz h' h2 k v r ∧ closed n r = true ∧ (∀ o x, h2 o = some x → h' o = some x ∧ o < n ∧ closedO n x = true) ∧ K r h2 n
def retQ (P : Program) (fn : Func) (n : Nat) (K : SV → Hp → Nat → Prop) : Post := fun e sa' h' n' =>
  (e = .normal ∨ e = .ret) ∧ ∃ rs, resS P sa' h' fn.results.toList = some rs ∧ RetS n h' n' (packS rs) K
section
variable {P : Program}
theorem look_init : ∀ (args : List SV) (i t : Nat), look (initSA i args) t = if i ≤ t then (args[t - i]?).getD .junk else .junk
  | [], i, t => by simp [initSA, look]
  | a :: aS, i, t => by
    simp only [initSA, look]
    by_cases h : i = t
    · subst h; simp
    · rw [if_neg h, look_init aS (i + 1) t]
      by_cases h2 : i ≤ t
      · rw [if_pos h2, if_pos (by omega), show t - i = (t - (i + 1)) + 1 by omega]
        simp
      · rw [if_neg h2, if_neg (by omega)]
theorem FR_init {E : Env} {N : Nat} {c : Cx} {args : List SV} {vs : List Value} (hE : E.base ≤ c.w.heap.size) (h : All2 (V c) args vs) (hl : args.length ≤ N) :
    FR E N (initSA 0 args) c { tmps := vs.toArray ++ Array.replicate (N - vs.toArray.size) undef, defers := [] } := by
  have hlen := h.length
  refine ⟨by simp; omega, ⟨hE, fun _ => rfl, by simp, by simp⟩, fun t => ?_⟩
  rw [look_init, if_pos (Nat.zero_le _), Nat.sub_zero]
  cases ha : args[t]? with
  | none => simp [V]
  | some s =>
    obtain ⟨u, hu, hv⟩ := h.get ha
    have hlt := (List.getElem?_eq_some_iff.1 hu).1
    simp only [Option.getD_some, Array.getD_eq_getD_getElem?]
    rw [Array.getElem?_append_left (by simpa using hlt)]
    simpa [hu] using hv
def resVal (tmps : Array Value) : ResultVar → Sem Value
  | .tmp t => pure (tmps.getD t undef)
  | .cell x t => do loadVar t (← asAddr (tmps.getD x undef))
theorem results_rel {E : Env} {N : Nat} {sa : SA} {c : Cx} {h : Hp} {a : Act} (R : Rel h c) (A : FR E N sa c a) : ∀ (l : List ResultVar) (rs : List SV), resS P sa h l = some rs →
    ∃ us, (l.mapM (resVal a.tmps)).run P c.w = .ok us c.w ∧ All2 (V c) rs us
  | [], rs, hr => by
    simp only [resS, Option.some.injEq] at hr
    subst hr
    exact ⟨[], by simp, trivial⟩
  | .tmp t :: l, rs, hr => by
    simp only [resS, Option.map_eq_some_iff] at hr
    obtain ⟨rs', h1, rfl⟩ := hr
    obtain ⟨us, g1, g2⟩ := results_rel R A l rs' h1
    exact ⟨a.tmps.getD t undef :: us, by simp only [List.mapM_cons, resVal, Sem.run_bind, Sem.run_pure, Result.andThen_ok, g1], A.val t, g2⟩
  | .cell x t :: l, rs, hr0 => by
    simp only [resS] at hr0
    split at hr0 <;> try cases hr0
    rename_i v vs h1 h2
    obtain ⟨us, g1, g2⟩ := results_rel R A l vs h2
    obtain ⟨ad, r, hu, hr, hv⟩ := loadS_rel R h1 (A.val x)
    exact ⟨r :: us, by simp only [List.mapM_cons, resVal, Sem.run_bind, Sem.run_pure, Result.andThen_ok, hu, asAddr, hr, g1], hv, g2⟩
theorem pack_rel {c : Cx} {rs : List SV} {us : List Value} (h : All2 (V c) rs us) : V c (packS rs) (if hs : us.toArray.size = 1 then us.toArray[0] else .tuple us.toArray) := by
  match rs, us, h with
  | [], [], _ => simp [packS, V, VL]
  | [r], [u], h => simpa [packS] using h.1
  | r :: r2 :: rs, u :: u2 :: us, h =>
    rw [dif_neg (by simp)]
    simp only [packS]
    rw [V]
    exact ⟨_, rfl, VL_iff.2 h⟩
  | [_], [], h => exact h.elim
  | [], _ :: _, h => exact h.elim
  | [_], _ :: _ :: _, h => exact h.2.elim
  | _ :: _ :: _, [], h => exact h.elim
  | _ :: _ :: _, [_], h => exact h.2.elim
def Env.call (E : Env) (m : Bool) (B : Nat) : Env := { ro := none, mks := m, base := B, inv := E.inv, ext := E.ext }
theorem ret_post {E' : Env} {fn : Func} {c c' : Cx} {a' : Act} {h' : Hp} {n n' : Nat} {sa' : SA} {K : SV → Hp → Nat → Prop} {rs : List SV} (F : Fr n c)
    (hrs : resS P sa' h' fn.results.toList = some rs) (hret : RetS n h' n' (packS rs) K) (R' : Rel h' c') (F' : Fr n' c') (A' : FR E' fn.ntmps sa' c' a') (X : Adv n c n' c') :
    ∃ u v h2 n2 c2, (results fn a'.tmps).run P c'.w = .ok u c'.w ∧ K v h2 n2 ∧ c2.w = c'.w ∧ V c2 v u ∧ Rel h2 c2 ∧ Fr n2 c2 ∧ Adv n c n2 c2 := by
  obtain ⟨us, g1, g2⟩ := results_rel (P := P) R' A' _ rs hrs
  have hrun : (results fn a'.tmps).run P c'.w = .ok (if hs : us.toArray.size = 1 then us.toArray[0] else .tuple us.toArray) c'.w := by
    have e : results fn a'.tmps = (do let vs ← fn.results.mapM (resVal a'.tmps); pure (if hs : vs.size = 1 then vs[0] else .tuple vs)) := by
      unfold results; congr 2
    rw [e, Array.mapM_eq_mapM_toList]
    simp only [Sem.run_bind, Sem.run_map, g1, Result.andThen_ok, Sem.run_pure]
  have hv := pack_rel g2
  rcases hret with hk | ⟨k, r, h2, hfz, hcr, hs, hk⟩
  · exact ⟨_, _, h', n', c', hrun, hk, rfl, hv, R', F', X⟩
  · have hs' : ∀ o x, h2 o = some x → h' o = some x := fun o x e => (hs o x e).1
    have RL := R'.less hs'
    have hv2 : V ((c'.less h2).cut h2 n) r _ := (hfz.sound R' hs' k hv).cut RL (fun _ _ e => e) hcr
    refine ⟨_, r, h2, n, (c'.less h2).cut h2 n, hrun, hk, rfl, hv2, RL.cut (fun o x e => ⟨e, (hs o x e).2⟩), cut_fr, ⟨cut_ext RL (fun _ _ e => e) F (Nat.le_refl _) (X.ext.trans (less_ext R' hs')), Nat.le_refl _, fun j hj => ?_⟩⟩
    simp only [Cx.cut, hj, if_true]
    exact X.same j hj
theorem args_closed {c : Cx} {n : Nat} {args : List SV} {vs : List Value} (F : Fr n c) (A : All2 (V c) args vs) : ∀ a ∈ args, closed n a = true := fun a ha => by
  obtain ⟨i, hi⟩ := List.getElem?_of_mem ha
  obtain ⟨u, _, hv⟩ := A.get hi
  exact closed_of_V F hv
theorem SCallE_of {E : Env} {f : FuncId} {fn : Func} {code : Code} {args : List SV} {h : Hp} {n : Nat} {K : SV → Hp → Nat → Prop} (hf : P.funcs[f]? = some fn) (hb : fn.body = some code)
    (hn : (fn.name != "runtime.NumGoroutine") = true) (hd : Code.dok fn.ntmps code = true) (hl : args.length ≤ fn.ntmps)
    (H : (∀ a ∈ args, closed n a = true) → (∀ o x, h o = some x → o < n ∧ closedO n x = true) → SWE (E.call false 0) P fn.ntmps code (retQ P fn n K) (initSA 0 args) h n) : SCallE E P f args h n K := by
  refine ⟨by simp [okFn, hf, hb]; simpa using hn, fun c vs I R F A => ?_⟩
  refine calls_of_wp hf hb (wp_mono (wpIn_wide.1 (H (args_closed F A) (fun o x e => closedO_of F (R.obj o x e)) hd c _ I R F (FR_init (Nat.zero_le _) A hl))) ?_)
  rintro e a' w' ⟨sa', h', n', c', ⟨he, rs, hrs, hret⟩, rfl, R', F', A', X⟩
  obtain ⟨u, v, h2, n2, c2, hrun, hk, hw, hv2, R2, F2, E2⟩ := ret_post F hrs hret R' F' A' X
  have hpost : a'.defers = [] ∧ ∃ u, (results fn a'.tmps).run P c'.w = .ok u c'.w ∧ ∃ u' v h' n' c'', Ending.returned u = .returned u' ∧ K v h' n' ∧ c''.w = c'.w ∧ V c'' v u' ∧ Rel h' c'' ∧ Fr n' c'' ∧ Adv n c n' c'' :=
    ⟨A'.defers.none rfl, _, hrun, _, v, h2, n2, c2, rfl, hk, hw, hv2, R2, F2, E2⟩
  rcases he with rfl | rfl <;> exact hpost
def Cx.shut (c : Cx) (D : Nat) : Cx := { c with w := c.w.putObj D (.deferred none) }
theorem shut_heap {c : Cx} {D b : Nat} (h : b ≠ D) : (c.shut D).w.heap[b]? = c.w.heap[b]? := World.putObj_heap_other h
theorem shut_ext0 {c : Cx} {D : Nat} (hD : c.w.heap[D]? = some (.deferred (some []))) : Ext0 c (c.shut D) := by
  refine ⟨fun _ _ e => e, fun b ho ⟨x, hb, hx⟩ => ⟨ho, ?_⟩, fun b => ?_⟩
  · have : b ≠ D := by rintro rfl; rw [hD] at hb; cases hb; exact hx _ rfl
    exact shut_heap this
  · by_cases e : b = D
    · subst e; simp [rm, hD]
    · simp [rm, shut_heap e]
theorem shut_rel {h : Hp} {c : Cx} {D : Nat} (hD : c.w.heap[D]? = some (.deferred (some []))) (R : Rel h c) : Rel h (c.shut D) := by
  refine ⟨fun o x e => ?_, R.inj2, R.own2⟩
  refine (R.obj o x e).mono0 (shut_ext0 hD) fun b hb' => shut_heap ?_
  rintro rfl
  have g := R.obj o x e
  rcases hb' with ⟨st, hb⟩ | ⟨hl, hb⟩
  rotate_left
  · cases x with
    | list z es =>
      obtain ⟨b', st0, arr, el, v, h1, h2, h3, h4, ⟨_, h5, _⟩ | ⟨B, st, arr2, e2, vs, cap, _, _, h5, h6, _⟩⟩ := g
      · rw [hb] at h5; cases h5
      · rw [hb] at h5; cases h5; rw [hD] at h6; cases h6
    | cells cs ty => cases hl
    | map es => cases hl
    | loop r => cases hl
    | sit s pos => cases hl
    | iter left last => cases hl
  cases x with
  | cells cs ty => obtain ⟨b', st', arr, el, vs, h1, h2, _⟩ := g; rw [hb] at h1; cases h1; rw [hD] at h2; cases h2
  | map es => obtain ⟨b', ents, clock, h1, h2, _⟩ := g; rw [hb] at h1; cases h1; rw [hD] at h2; cases h2
  | loop r => obtain ⟨b', h1, h2⟩ := g; rw [hb] at h1; cases h1; rw [hD] at h2; cases h2
  | sit s pos => obtain ⟨b', h1, h2⟩ := g; rw [hb] at h1; cases h1; rw [hD] at h2; cases h2
  | iter left last => obtain ⟨b', bm, ents, clock, seen, h1, h2, _⟩ := g; rw [hb] at h1; cases h1; rw [hD] at h2; cases h2
  | list z es => obtain ⟨b', st0, arr, el, v, h1, h2, _⟩ := g; rw [hb] at h1; cases h1; rw [hD] at h2; cases h2
theorem shut_after {c0 c : Cx} {D : Nat} (X : Ext c0 c) (h : c0.w.heap.size ≤ D) (hD : c.w.heap[D]? = some (.deferred (some []))) : Ext c0 (c.shut D) := by
  refine ⟨X.ρ, by simpa [Cx.shut] using X.size, fun b hb ho => ⟨(X.keep b hb ho).1, ?_⟩, fun b => Nat.le_trans (X.room b) ((shut_ext0 hD).room b), X.os, X.out, X.td⟩
  rw [shut_heap (by omega)]; exact (X.keep b hb ho).2
theorem leaves_marks {fn : Func} {E' : Env} {c : Cx} {tmps : Array Value} {R : Ending → World → Prop} (hB : c.w.heap.size ≤ E'.base) {n n' : Nat} {h' : Hp} {sa' : SA} {K : SV → Hp → Nat → Prop} {rs : List SV} (F : Fr n c)
    (hrs : resS P sa' h' fn.results.toList = some rs) (hret : RetS n h' n' (packS rs) K)
    (hR : ∀ u v h2 n2 c2, K v h2 n2 → V c2 v u → Rel h2 c2 → Fr n2 c2 → Adv n c n2 c2 → R (.returned u) c2.w) :
    ∀ (ds : List Deferred) (c' : Cx), (∀ d ∈ ds, ∃ D, E'.base ≤ D ∧ d = mark D ∧ c'.w.heap[D]? = some (.deferred (some [])) ∧ ¬ c'.own D) → ds.Nodup → Rel h' c' → Fr n' c' → tmps.size = fn.ntmps → (∀ t, V c' (look sa' t) (tmps.getD t undef)) → Adv n c n' c' → LeavesInM Fence.wide 0 P fn tmps R ds .returning c'.w
  | [], c', _, _, R', F', hs, hv, X => by
    obtain ⟨u, v, h2, n2, c2, hrun, hk, hw, hv2, R2, F2, E2⟩ := ret_post (E' := Env.plain) (a' := { tmps := tmps, defers := [] }) F hrs hret R' F' ⟨hs, ⟨Nat.zero_le _, fun _ => rfl, by simp, by simp⟩, hv⟩ X
    exact ⟨u, hrun, hw ▸ hR u v h2 n2 c2 hk hv2 R2 F2 E2⟩
  | d :: ds, c', hm, hnd, R', F', hs, hv, X => by
    obtain ⟨D, h1, hdm, h3, h4⟩ := hm d (by simp)
    subst hdm
    refine ⟨by simp, .inl ⟨D, (c'.shut D).w, rfl, run_takeDeferred h3, ?_⟩⟩
    refine leaves_marks hB F hrs hret hR ds (c'.shut D) (fun d hd => ?_) (List.nodup_cons.1 hnd).2 (shut_rel h3 R') F' hs (fun t => V.mono0 (shut_ext0 h3) (hv t)) ⟨shut_after X.ext (by omega) h3, X.le, X.same⟩
    obtain ⟨D', g1, g2, g3, g4⟩ := hm d (by simp [hd])
    have : D' ≠ D := by rintro rfl; exact (List.nodup_cons.1 hnd).1 (g2 ▸ hd)
    exact ⟨D', g1, g2, by rw [shut_heap this]; exact g3, g4⟩
theorem SCallE_ofM {E : Env} {f : FuncId} {fn : Func} {code : Code} {args : List SV} {h : Hp} {n : Nat} {K : SV → Hp → Nat → Prop} (hf : P.funcs[f]? = some fn) (hb : fn.body = some code)
    (hn : (fn.name != "runtime.NumGoroutine") = true) (hd : Code.dok fn.ntmps code = true) (hl : args.length ≤ fn.ntmps)
    (H : (∀ a ∈ args, closed n a = true) → (∀ o x, h o = some x → o < n ∧ closedO n x = true) → ∀ B, SWE (E.call true B) P fn.ntmps code (retQ P fn n K) (initSA 0 args) h n) : SCallE E P f args h n K := by
  refine ⟨by simp [okFn, hf, hb]; simpa using hn, fun c vs I R F A => ?_⟩
  refine (callsIn_wide (n := 0)).1 (callsIn_of_wp_marks hf hb trivial (wpIn_mono (H (args_closed F A) (fun o x e => closedO_of F (R.obj o x e)) c.w.heap.size hd c _ I R F (FR_init (Nat.le_refl _) A hl)) ?_))
  rintro e a' w' ⟨sa', h', n', c', ⟨he, rs, hrs, hret⟩, rfl, R', F', A', X⟩
  have := leaves_marks (P := P) (E' := E.call true c.w.heap.size) (R := fun e w' => ∃ u v h' n' c', e = .returned u ∧ K v h' n' ∧ c'.w = w' ∧ V c' v u ∧ Rel h' c' ∧ Fr n' c' ∧ Adv n c n' c') (Nat.le_refl _) F hrs hret
    (fun u v h2 n2 c2 hk hv2 R2 F2 E2 => ⟨u, v, h2, n2, c2, rfl, hk, rfl, hv2, R2, F2, E2⟩) a'.defers c' A'.defers.ok A'.defers.nodup R' F' A'.size A'.val X
  rcases he with rfl | rfl <;> exact this
end
section plain
variable {α : Type}
def wr1 (f : Nat → α) (p : Nat × α) : Nat → α := fun k => if k = p.1 then p.2 else f k
def appW (f : Nat → α) (w : List (Nat × α)) : Nat → α := w.foldl wr1 f
def keysW (w : List (Nat × α)) : List Nat := w.map (·.1)
theorem appW_not {w : List (Nat × α)} {k : Nat} : ∀ {f : Nat → α}, k ∉ keysW w → appW f w k = f k := by
  induction w with
  | nil => intro f _; rfl
  | cons p w ih =>
    intro f hk
    simp only [keysW, List.map_cons, List.mem_cons, not_or] at hk
    show appW (wr1 f p) w k = f k
    rw [ih (by simpa [keysW] using hk.2)]
    simp [wr1, hk.1]
theorem appW_congr {w : List (Nat × α)} {k : Nat} : ∀ {f g : Nat → α}, f k = g k → appW f w k = appW g w k := by
  induction w with
  | nil => intro f g h; exact h
  | cons p w ih =>
    intro f g h
    exact ih (f := wr1 f p) (g := wr1 g p) (by simp only [wr1]; rw [h])
theorem appW_in {w : List (Nat × α)} {k : Nat} : ∀ {f g : Nat → α}, k ∈ keysW w → appW f w k = appW g w k := by
  induction w with
  | nil => intro f g h; simp [keysW] at h
  | cons p w ih =>
    intro f g h
    by_cases hk : k ∈ keysW w
    · exact ih (f := wr1 f p) (g := wr1 g p) hk
    · have : k = p.1 := by simp only [keysW, List.map_cons, List.mem_cons] at h; rcases h with h | h; exact h; exact absurd (by simpa [keysW] using h) hk
      show appW (wr1 f p) w k = appW (wr1 g p) w k
      rw [appW_not hk, appW_not hk]
      simp [wr1, this]
theorem appW_comm {w v : List (Nat × α)} (hd : ∀ k, k ∈ keysW w → k ∉ keysW v) (f : Nat → α) (k : Nat) : appW (appW f w) v k = appW (appW f v) w k := by
  by_cases h1 : k ∈ keysW w
  · rw [appW_not (hd k h1)]; exact appW_in h1
  · rw [appW_not h1 (f := appW f v)]; exact appW_congr (appW_not h1)
def sel : List (List (Nat × α)) → (Nat → Bool) → Nat → (Nat → α) → (Nat → α)
  | [], _, _, f => f
  | w :: l, D, i, f => sel l D (i + 1) (if D i then appW f w else f)
theorem sel_congr {D : Nat → Bool} {k : Nat} : ∀ {l : List (List (Nat × α))} {i : Nat} {f g : Nat → α}, f k = g k → sel l D i f k = sel l D i g k
  | [], _, _, _, h => h
  | w :: l, i, f, g, h => by
    simp only [sel]
    refine sel_congr ?_
    split
    · exact appW_congr h
    · exact h
theorem sel_not {D : Nat → Bool} {k : Nat} : ∀ {l : List (List (Nat × α))} {i : Nat} {f : Nat → α}, (∀ q w, l[q]? = some w → D (i + q) = true → k ∉ keysW w) → sel l D i f k = f k
  | [], _, _, _ => rfl
  | w :: l, i, f, h => by
    simp only [sel]
    rw [sel_not fun q v hq hD => h (q + 1) v (by simpa using hq) (by rw [show i + (q + 1) = i + 1 + q by omega]; exact hD)]
    split
    · rename_i hD; exact appW_not (h 0 w rfl hD)
    · rfl
theorem sel_app {D : Nat → Bool} {v : List (Nat × α)} : ∀ {l : List (List (Nat × α))} {i : Nat} {f : Nat → α}, (∀ q w, l[q]? = some w → D (i + q) = true → ∀ k, k ∈ keysW v → k ∉ keysW w) →
    ∀ k, sel l D i (appW f v) k = appW (sel l D i f) v k
  | [], _, _, _, _ => rfl
  | w :: l, i, f, h, k => by
    simp only [sel]
    have ih := fun g => sel_app (D := D) (v := v) (l := l) (i := i + 1) (f := g) fun q w hq hD => h (q + 1) w (by simpa using hq) (by rw [show i + (q + 1) = i + 1 + q by omega]; exact hD)
    by_cases hD : D i = true
    · rw [if_pos hD, if_pos hD, ← ih]
      exact sel_congr (appW_comm (h 0 w rfl hD) f k)
    · rw [if_neg hD, if_neg hD, ih]
theorem sel_insert {D : Nat → Bool} {p : Nat} {v : List (Nat × α)} (hp : D p = false) : ∀ {l : List (List (Nat × α))} {i : Nat} {f : Nat → α}, i ≤ p → l[p - i]? = some v →
    (∀ q w, p < q → i ≤ q → l[q - i]? = some w → D q = true → ∀ k, k ∈ keysW v → k ∉ keysW w) → ∀ k, sel l (fun q => D q || q == p) i f k = appW (sel l D i f) v k
  | [], _, _, _, h, _, _ => by simp at h
  | w :: l, i, f, hi, hv, h, k => by
    simp only [sel]
    by_cases e : i = p
    · subst e
      simp only [Nat.sub_self, List.getElem?_cons_zero, Option.some.injEq] at hv
      subst hv
      have e1 : ∀ g : Nat → α, ∀ k, sel l (fun q => D q || q == i) (i + 1) g k = sel l D (i + 1) g k := by
        intro g
        have gen : ∀ (l : List (List (Nat × α))) (j : Nat) (g : Nat → α), i < j → ∀ k, sel l (fun q => D q || q == i) j g k = sel l D j g k := by
          intro l
          induction l with
          | nil => intros; rfl
          | cons u l ih =>
            intro j g hj k
            simp only [sel]
            have : (j == i) = false := by simp; omega
            simp only [this, Bool.or_false]
            exact ih (j + 1) _ (by omega) k
        exact gen l (i + 1) g (by omega)
      simp only [beq_self_eq_true, Bool.or_true, if_true, hp, Bool.false_eq_true, if_false]
      rw [e1]
      exact sel_app (fun q u hq hD k hk => h (i + 1 + q) u (by omega) (by omega) (by rw [show i + 1 + q - i = q + 1 by omega]; simpa using hq) hD k hk) k
    · have hne : (i == p) = false := by simp; exact e
      simp only [hne, Bool.or_false]
      refine sel_insert hp (by omega) ?_ ?_ k
      · rw [show p - i = (p - (i + 1)) + 1 by omega] at hv; simpa using hv
      · intro q u h1 h2 h3 h4
        exact h q u h1 (by omega) (by rw [show q - i = (q - (i + 1)) + 1 by omega]; simpa using h3) h4
theorem sel_agree {D E : Nat → Bool} {k : Nat} : ∀ {l : List (List (Nat × α))} {i : Nat} {f : Nat → α}, (∀ q w, i ≤ q → l[q - i]? = some w → D q ≠ E q → k ∉ keysW w) → sel l D i f k = sel l E i f k
  | [], _, _, _ => rfl
  | w :: l, i, f, h => by
    simp only [sel]
    have ih := fun g => sel_agree (D := D) (E := E) (k := k) (l := l) (i := i + 1) (f := g) fun q u hq hu hne => h q u (by omega) (by rw [show q - i = (q - (i + 1)) + 1 by omega]; simpa using hu) hne
    by_cases e : D i = E i
    · rw [e]; exact ih _
    · have hw := h i w (Nat.le_refl _) (by simp) e
      rw [ih]
      refine sel_congr ?_
      have a1 : ∀ b : Bool, (if b = true then appW f w else f) k = f k := fun b => by cases b; rfl; exact appW_not hw
      rw [a1, a1]
end plain
theorem sop_local {P : Program} {ev ev' : Operand → SV} {h h' : Hp} {k : Nat} {op : Op} (hev : ∀ x ∈ op.operands, ev x = ev' x) (hh : ∀ j ∈ footS ev op, h j = h' j) : sop P ev h k op = sop P ev' h' k op := by
  have hflat : ∀ s : SV, (∀ j ∈ s.ids, h j = h' j) → flat h s = flat h' s := fun s hs => by
    cases s <;> simp only [flat]
    rw [hs _ (by simp [SV.ids])]
  have hload : ∀ (t : TypeId) (s : SV), (∀ j ∈ s.ids, h j = h' j) → loadS P h t s = loadS P h' t s := fun t s hs => by
    cases s <;> simp only [loadS]
    rw [hs _ (by simp [SV.ids])]
  have hmap : ∀ s : SV, (∀ j ∈ s.ids, h j = h' j) → mapOf h s = mapOf h' s := fun s hs => by
    cases s <;> simp only [mapOf]
    rw [hs _ (by simp [SV.ids])]
  cases op with
  | move x | assign x => simp only [sop]; rw [hev x (by simp [Op.operands])]
  | pick a b d => simp only [sop]; rw [hev a (by simp [Op.operands]), hev b (by simp [Op.operands]), hev d (by simp [Op.operands])]
  | alloc e => rfl
  | box e x => simp only [sop]; rw [hev x (by simp [Op.operands])]
  | build t ps =>
    have : (ps.toList.map fun p => (p.1, ev p.2)) = ps.toList.map fun p => (p.1, ev' p.2) := List.map_congr_left fun p hp => by rw [hev p.2 (ops_build hp)]
    simp only [sop, this]
  | buildSlice t l ps =>
    have : (ps.toList.map fun p => (p.1, ev p.2)) = ps.toList.map fun p => (p.1, ev' p.2) := List.map_congr_left fun p hp => by rw [hev p.2 (ops_buildSlice hp)]
    simp only [sop, this]
  | load t a =>
    simp only [sop]
    rw [hload t _ (fun j hj => hh j (by simpa only [footS] using hj)), hev a (by simp [Op.operands])]
  | store t a x =>
    simp only [sop]
    have h1 : ∀ j ∈ (ev a).ids, h j = h' j := fun j hj => hh j (by simpa only [footS] using hj)
    rw [← hev a (by simp [Op.operands]), ← hev x (by simp [Op.operands])]
    cases he : ev a <;> simp only [storeS]
    rw [he] at h1
    rw [h1 _ (by simp [SV.ids])]
  | nilCheck x => simp only [sop]; rw [hev x (by simp [Op.operands])]
  | binOp op t x y t2 => simp only [sop]; rw [hev x (by simp [Op.operands]), hev y (by simp [Op.operands])]
  | unOp op t x => simp only [sop]; rw [hev x (by simp [Op.operands])]
  | convert a b x => simp only [sop]; rw [hev x (by simp [Op.operands])]
  | makeFunc f a b =>
    have e1 : a.toList.map ev = a.toList.map ev' := List.map_congr_left fun x hx => hev x (by simp [Op.operands] at hx ⊢; exact .inl hx)
    have e2 : b.toList.map ev = b.toList.map ev' := List.map_congr_left fun x hx => hev x (by simp [Op.operands] at hx ⊢; exact .inr hx)
    simp only [sop, e1, e2]
  | makeMap t r => rfl
  | makeSlice t l c => simp only [sop]; rw [hev l (by simp [Op.operands]), hev c (by simp [Op.operands])]
  | slice t x lo hi mx =>
    have e1 : lo.map ev = lo.map ev' := by cases lo with | none => rfl | some y => simp [hev y (by simp [Op.operands])]
    have e2 : hi.map ev = hi.map ev' := by cases hi with | none => rfl | some y => simp [hev y (by simp [Op.operands])]
    have e3 : mx.map ev = mx.map ev' := by cases mx with | none => rfl | some y => simp [hev y (by simp [Op.operands])]
    simp only [sop, e1, e2, e3]
    rw [hev x (by simp [Op.operands])]
  | fieldAddr t x i => simp only [sop]; rw [hev x (by simp [Op.operands])]
  | field t x i => simp only [sop]; rw [hev x (by simp [Op.operands])]
  | indexAddr t x i => simp only [sop]; rw [hev x (by simp [Op.operands]), hev i (by simp [Op.operands])]
  | index t x i => simp only [sop]; rw [hev x (by simp [Op.operands]), hev i (by simp [Op.operands])]
  | lookup t m y ok =>
    simp only [sop]
    rw [hmap _ (fun j hj => hh j (by simpa only [footS] using hj)), hev m (by simp [Op.operands]), hev y (by simp [Op.operands])]
  | mapUpdate t m y x =>
    simp only [sop]
    have h1 : ∀ j ∈ (ev m).ids, h j = h' j := fun j hj => hh j (by simpa only [footS] using hj)
    rw [← hev m (by simp [Op.operands]), ← hev y (by simp [Op.operands]), ← hev x (by simp [Op.operands])]
    cases tmap P t with
    | none => rfl
    | some q =>
      obtain ⟨kt, ee⟩ := q
      cases he : ev m <;> try rfl
      rw [he] at h1
      simp only
      rw [h1 _ (by simp [SV.ids])]
  | insert t m y x =>
    simp only [sop]
    have h1 : ∀ j ∈ (ev m).ids, h j = h' j := fun j hj => hh j (by simpa only [footS] using hj)
    rw [← hev m (by simp [Op.operands]), ← hev y (by simp [Op.operands]), ← hev x (by simp [Op.operands])]
    cases tmap P t with
    | none => rfl
    | some q =>
      obtain ⟨kt, ee⟩ := q
      cases he : ev m <;> try rfl
      rw [he] at h1
      simp only
      rw [h1 _ (by simp [SV.ids])]
  | extract x i => simp only [sop]; rw [hev x (by simp [Op.operands])]
  | call cl =>
    obtain ⟨callee, args, ts⟩ := cl
    cases callee with
    | value f => rfl
    | invoke r m => rfl
    | builtin b =>
      have e1 : args.toList.map ev = args.toList.map ev' := List.map_congr_left fun x hx => hev x (by simp [Op.operands, Call.operands]; simpa using hx)
      simp only [sop]
      rw [← e1]
      have hids0 : ∀ s ∈ args.toList.map ev, ∀ j ∈ (match b, s with | .len, .sl .. => [] | _, v => v.ids), h j = h' j := fun s hs j hj => by
        simp only [List.mem_map] at hs
        obtain ⟨x, hx, rfl⟩ := hs
        exact hh j (by simp only [footS, List.mem_flatMap]; exact ⟨x, hx, hj⟩)
      generalize args.toList.map ev = A at hids0
      by_cases hb : b = .len
      · subst hb
        generalize hts : ts.toList = T
        match T, A, hids0 with
        | [t], [x], hids0 =>
          simp only [builtinS]
          cases x <;> try rfl
          rename_i o
          simp only
          rw [hids0 (.map o) (by simp) o (by simp [SV.ids])]
        | [], _, _ => rfl
        | _ :: _ :: _, _, _ => rfl
        | [_], [], _ => rfl
        | [_], _ :: _ :: _, _ => rfl
      have hids : ∀ s ∈ A, ∀ j ∈ s.ids, h j = h' j := fun s hs j hj => hids0 s hs j (by cases b <;> first | exact absurd rfl hb | (cases s <;> exact hj))
      unfold builtinS
      split
      · rename_i t x _
        have h1 := hids x (by simp)
        cases x <;> try rfl
        simp only
        rw [h1 _ (by simp [SV.ids])]
      · rfl
      · rename_i t t2 s x _
        have h1 := hflat s (hids s (by simp))
        have h2 := hflat x (hids x (by simp))
        simp only [appendS, appendStr, appC, h2]
        cases s with
        | imm z es full => cases full <;> rfl
        | sl o off z len full =>
          have h3 : h o = h' o := hids (.sl o off z len full) (by simp) o (by simp [SV.ids])
          have h4 : ∀ e, tyApp h e o off = tyApp h' e o off := fun e => by unfold tyApp; rw [h3]
          simp only [h1, h4]
        | _ => rfl
      · rename_i t t2 d x _
        have h1 := hids d (by simp)
        have h2 := hflat x (hids x (by simp))
        simp only [copyS, h2]
        cases d <;> try rfl
        simp only
        rw [h1 _ (by simp [SV.ids])]
      · rename_i t d _
        have h1 := hids d (by simp)
        simp only [clearS]
        cases d <;> try rfl
        simp only
        rw [h1 _ (by simp [SV.ids])]
      · rfl
      · rfl
      · rename_i t t2 o y _
        have h1 := hids (.map o) (by simp)
        rw [h1 _ (by simp [SV.ids])]
      · rfl
  | _ => rfl
end Go.Proofs.YthinbkgpjmjfeaaGreatDoor.Sh
