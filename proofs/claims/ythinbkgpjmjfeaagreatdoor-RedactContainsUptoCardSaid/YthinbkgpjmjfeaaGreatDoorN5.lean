/- A part of the proof (part 5 of 13). -/
import Derived.Test.YthinbkgpjmjfeaaGreatDoorN4
import Derived.OrdersHeld
import Derived.OrdersIn
import Derived.Shelf.SortM.Plain
import Derived.Shelf.SortM.SortNone
import Derived.Test.YthinbkgpjmjfeaaGreatDoorProg
namespace Go.Proofs.YthinbkgpjmjfeaaGreatDoor.Sh
section
variable {F : Fence} {n : Nat} {P : Program} {ops : Array Oper} {Q : Exit → Act → World → Prop} {S : World → Prop} {md : Region.Mode}
def YieldsS (P : Program) (ops : Array Oper) (S : World → Prop) (o : Oper) (v : Value) (a : Act) : Prop := YieldsIf P ops S o v a ∧ ∀ w, o.about P w a.eval = none
theorem YieldsS.wpOpIn {i : Nat} {o : Oper} {v : Value} {a : Act} (hro : F.round = none) (hi : ops[i]? = some o) (hy : YieldsS P ops S o v a)
    {K : Act → World → Prop} {w : World} (hS : S w) (h : K (a.put o.dst v) w) : wpOpIn F n P ops Q i K a w := by
  unfold Go.wpOpIn
  simp only [hi]
  have hab : ∀ f, o.about P w a.eval = some f → F.fn f := fun f hf => by rw [hy.2 w] at hf; cases hf
  rcases hy.1 with ⟨hw, hv⟩ | ⟨hw, rfl⟩
  · simp only [hw, if_true, Oper.wpIn, hro, Oper.semAt_none, hv w hS, Oper.uponIn]; exact ⟨hab, h⟩
  · simp only [hw, Bool.false_eq_true, if_false]; exact ⟨hab, h⟩
theorem YieldsS.of_same {o : Oper} {v : Value} {a a' : Act} (hy : YieldsS P ops S o v a) (he : execOp a'.eval o = execOp a.eval o)
    (hw : Region.wanted o (yielded ops a'.tmps) = Region.wanted o (yielded ops a.tmps)) (hb : ∀ w, o.about P w a'.eval = o.about P w a.eval) : YieldsS P ops S o v a' :=
  ⟨hy.1.of_same he hw, fun w => by rw [hb w]; exact hy.2 w⟩
theorem wpOpIn_putS {j : Nat} {oi oj : Oper} {v : Value} (hro : F.round = none) (hj : ops[j]? = some oj) (hap : oi.apart ops oj = true)
    (hsi : ∀ cs b, oi.op ≠ .select cs b) (hsj : ∀ cs b, oj.op ≠ .select cs b)
    (hQ : ∀ c a w, Q (.panic c) (a.put oi.dst v) w → Q (.panic c) a w) {K : Act → World → Prop} {a : Act} {w : World}
    (hy : YieldsS P ops S oi v a) (h : wpOpIn F n P ops Q j K (a.put oi.dst v) w) :
    wpOpIn F n P ops Q j (fun a' w' => YieldsS P ops S oi v a' ∧ K (a'.put oi.dst v) w') a w := by
  obtain ⟨h1, h2, h3⟩ := Oper.apart_spec hap
  have keep : ∀ (a : Act), YieldsS P ops S oi v a → ∀ u, YieldsS P ops S oi v (a.put oj.dst u) := fun a hy u =>
    hy.of_same (execOp_put oi hsi a oj.dst u h3) (wanted_put oi a oj.dst u h3) (fun w => about_put oi w a oj.dst u h3)
  have keepD : ∀ d, YieldsS P ops S oi v { a with defers := d :: a.defers } := fun d => hy.of_same rfl rfl (fun _ => rfl)
  unfold wpOpIn at *
  simp only [hj] at *
  rw [wanted_put oj a oi.dst v h1, about_put oj w a oi.dst v h1] at h
  split
  · rename_i hw
    simp only [hw, if_true] at h
    unfold Oper.wpIn at *
    rw [about_put oj w a oi.dst v h1] at h
    refine ⟨h.1, ?_⟩
    have h := h.2
    rw [hro, Oper.semAt_none, execOp_put oj hsj a oi.dst v h1] at h
    rw [hro, Oper.semAt_none]
    generalize (execOp a.eval oj).run P w = r at *
    cases r with
    | ok x w' =>
      cases x <;> simp only [Oper.uponIn] at h ⊢
      case value u => exact ⟨keep a hy u, by rw [← Act.put_comm a v u h2]; exact h⟩
      case skip => exact ⟨keep a hy _, by rw [← Act.put_comm a v undef h2]; exact h⟩
      case defer d =>
        refine ⟨keep _ (keepD d) _, ?_⟩
        rw [← Act.put_comm _ v undef h2, ← Act.put_defers]
        exact h
      case enter f args =>
        refine ⟨h.1, CallsIn.mono h.2 fun e w'' he => ?_⟩
        cases e with
        | returned u => exact ⟨keep a hy u, by rw [← Act.put_comm a v u h2]; exact he⟩
        | panicked c => exact hQ _ _ _ he
        | outgrown => exact he
      case row row args => exact ⟨h.1, RowsIn.mono h.2 fun u w'' he => ⟨keep a hy u, by rw [← Act.put_comm a v u h2]; exact he⟩⟩
      case round l f tmps assign body =>
        refine ⟨h.1, RoundIn.mono h.2 fun e w'' he => ?_⟩
        cases e with
        | returned u => exact ⟨keep a hy u, by rw [← Act.put_comm a v u h2]; exact he⟩
        | panicked c => exact hQ _ _ _ he
        | outgrown => exact he
    | halt x w' =>
      cases x <;> simp only [Oper.uponIn] at h ⊢
      case panic u => exact hQ _ _ _ h
  · rename_i hw
    simp only [hw] at h
    exact ⟨h.1, keep a hy _, by rw [← Act.put_comm a v undef h2]; exact h.2⟩
def wpAnyS (F : Fence) (n : Nat) (P : Program) (md : Region.Mode) (ops : Array Oper) (Q : Exit → Act → World → Prop) (S : World → Prop) : Nat → Array Bool → Act → World → Prop
  | 0, listed, a, w => Region.ready md ops listed = [] ∧ Q .normal a w
  | fuel + 1, listed, a, w =>
    (Region.ready md ops listed = [] → Q .normal a w) ∧
    ∀ i ∈ Region.ready md ops listed, wpOpIn F n P ops Q i (fun a' w' => S w' ∧ wpAnyS F n P md ops Q S fuel (listed.setIfInBounds i true) a' w') a w
theorem wpAnyIn_of_S : ∀ (fuel : Nat) (listed : Array Bool) (a : Act) (w : World), wpAnyS F n P md ops Q S fuel listed a w → wpAnyIn F n P md ops Q fuel listed a w
  | 0, _, _, _, h => h
  | fuel + 1, _, _, _, h => ⟨h.1, fun i hi => wpOpIn_mono (fun a' w' h' => wpAnyIn_of_S fuel _ a' w' h'.2) (h.2 i hi)⟩
theorem wpAnyS_first {i : Nat} {oi : Oper} {v : Value} (hro : F.round = none) (hi : ops[i]? = some oi) (hsel : ∀ (j : Nat) (o : Oper) cs b, ops[j]? = some o → o.op ≠ .select cs b)
    (hQ : ∀ c a w, Q (.panic c) (a.put oi.dst v) w → Q (.panic c) a w) :
    ∀ (fuel : Nat) (listed : Array Bool) (a : Act) (w : World),
      (∀ j oj, ops[j]? = some oj → j ≠ i → listed.getD j true = false → (∀ e ∈ oj.after, Region.binds md e = true → e.on ≠ i) → oi.apart ops oj = true) →
      i ∈ Region.ready md ops listed → YieldsS P ops S oi v a → S w →
      wpAnyS F n P md ops Q S fuel (listed.setIfInBounds i true) (a.put oi.dst v) w → wpAnyS F n P md ops Q S (fuel + 1) listed a w := by
  intro fuel
  induction fuel with
  | zero =>
    intro listed a w _ hr hy hS H
    refine ⟨fun h => (by rw [h] at hr; cases hr), fun j hj => ?_⟩
    by_cases hji : j = i
    · subst hji; exact hy.wpOpIn hro hi hS ⟨hS, H⟩
    · have := ready_mono hj hji
      rw [H.1] at this
      cases this
  | succ fuel ih =>
    intro listed a w hfree hr hy hS H
    refine ⟨fun h => (by rw [h] at hr; cases hr), fun j hj => ?_⟩
    by_cases hji : j = i
    · subst hji; exact hy.wpOpIn hro hi hS ⟨hS, H⟩
    · have h1 := H.2 j (ready_mono hj hji)
      obtain ⟨hjun, oj, hoj, hall⟩ := mem_ready.1 hj
      have hnot : ∀ e ∈ oj.after, Region.binds md e = true → e.on ≠ i := fun e he hb heq => by
        have h1 := hall e he hb
        have h0 := (mem_ready.1 hr).1
        rw [heq] at h1
        rcases Nat.lt_or_ge i listed.size with h' | h'
        · simp [h'] at h0 h1; rw [h0] at h1; cases h1
        · simp [Array.getElem?_eq_none h'] at h1
      have h2 := wpOpIn_putS hro hoj (hfree j oj hoj hji hjun hnot) (fun cs b => hsel i oi cs b hi) (fun cs b => hsel j oj cs b hoj) hQ hy h1
      have hfree' : ∀ k ok, ops[k]? = some ok → k ≠ i → (listed.setIfInBounds j true).getD k true = false →
          (∀ e ∈ ok.after, Region.binds md e = true → e.on ≠ i) → oi.apart ops ok = true := fun k ok hk hki hun hno => by
        refine hfree k ok hk hki ?_ hno
        by_cases hjk : j = k
        · subst hjk; exact hjun
        · rw [getD_set_ne true hjk] at hun; exact hun
      refine wpOpIn_mono (fun a' w' h3 => ⟨h3.2.1, ih (listed.setIfInBounds j true) a' w' hfree' (ready_mono hr (Ne.symm hji)) h3.1 h3.2.1 ?_⟩) h2
      rw [Array.setIfInBounds_comm _ _ hji]
      exact h3.2.2
end
def pureS (P : Program) (st : Bool) (ev : Operand → SV) : Op → Option SV
  | .move x | .assign x => some (ev x)
  | .fieldAddr t x i => fieldPtr P t (ev x) i
  | .load t a => match st, ev a with | true, .iptr cs => (takeN cs 0 (tsz P t)).bind (asm (tagg P t)) | _, _ => none
  | .indexAddr t x i => match ev x, ev i with | .imm z es f, .int _ n => if (tslice P t).isSome then indexPtr P t (.imm z es f) n else none | _, _ => none
  | .slice t x lo hi mx => match ev x with | .imm z es f => sliceS P t (.imm z es f) (lo.map ev) (hi.map ev) (mx.map ev) | _ => none
  | .extract x i => match ev x with | .tup vs => vs[i]? | _ => none
  | .unOp op _ x => match op, ev x with | .not, .bool b => some (.bool !b) | _, _ => none
  | .pick x a b => match ev x with | .bool t => some (if t then ev a else ev b) | _ => none
  | .makeFunc f a b => some (.fn f (a.toList.map ev) (b.toList.map ev))
  | .nilCheck x => match ev x with | .ptr o a => some (.ptr o a) | .iptr cs => some (.iptr cs) | _ => none
  | .call { callee := .builtin .min, args, .. } => match args.toList with | [x, y] => (match ev x, ev y with | .int k a, .int k' b => if k = k' then some (.int k (if b < a then b else a)) else none | _, _ => none) | _ => none
  | .call { callee := .builtin .max, args, .. } => match args.toList with | [x, y] => (match ev x, ev y with | .int k a, .int k' b => if k = k' then some (.int k (if b > a then b else a)) else none | _, _ => none) | _ => none
  | .binOp op _ x y _ => match ev x, ev y with | .int k a, .int k' b => if op ≠ .shl ∧ op ≠ .shr ∧ k = k' then (intBin op k a b) else none | _, _ => none
  | .call { callee := .builtin .len, args, argTypes } => match argTypes.toList, args.toList with | [t], [x] => (match ev x with | .imm _ es _ => if (tslice P t).isSome then some (.int .i64 es.length) else none | _ => none) | _, _ => none
  | _ => none
def Same (P : Program) (ev : Operand → Value) (o : Oper) (c : Cx) (v : SV) (W : World → Prop) : Prop := ∃ u, V c v u ∧ ∀ w, W w → (execOp ev o).run P w = .ok (.value u) w
section
variable {P : Program} {ev : Operand → Value} {o : Oper} {c : Cx} {evs : Operand → SV}
theorem pure_load {t : TypeId} {x : Operand} {v : SV} {cs : List SV} (ho : o.op = .load t x) (hx : evs x = .iptr cs) (hs : (takeN cs 0 (tsz P t)).bind (asm (tagg P t)) = some v) (hv : V c (evs x) (ev x)) :
    Same P ev o c v fun w => ∃ c', c'.w = w ∧ Ext c c' := by
  rw [hx, V] at hv
  obtain ⟨a, vs, hu, hst, hc, hsp⟩ := hv
  rw [VL_iff] at hc
  cases ht : takeN cs 0 (tsz P t) with
  | none => simp [ht] at hs
  | some r =>
    simp only [ht, Option.bind_some] at hs
    obtain ⟨hle, rfl⟩ := takeN_some ht
    simp only [List.drop_zero] at hs
    have hc' := hc.take (tsz P t)
    have h1' : ∀ x ∈ vs.take (tsz P t), x.oneCell' = true := fun x hx => hst.one x (List.mem_of_mem_take hx)
    have hlen : (vs.take (tsz P t)).length = tsz P t := by have := hc.length; simp; omega
    have hcell' : ∀ c' : Cx, Ext c c' → ∀ i x, (vs.take (tsz P t))[i]? = some x → c'.w.cell? ⟨a.block, a.off + i, none⟩ = some x := fun c' X i x hx => by
      rw [List.getElem?_take] at hx
      split at hx
      · exact (hst.mono X).cell _ _ hx
      · cases hx
    rcases asm_rel hs hc' h1' with ⟨hag, hv⟩ | ⟨hag, x, hx, hv⟩
    · refine ⟨_, hv, ?_⟩
      rintro w ⟨c', rfl, X⟩
      simp [execOp, ho, hu, Instr.loadAt, Instr.sureAddr, (run_loadVar' hsp hag hlen (hcell' c' X)).1 rfl]
    · refine ⟨_, hv, ?_⟩
      rintro w ⟨c', rfl, X⟩
      simp [execOp, ho, hu, Instr.loadAt, Instr.sureAddr, (run_loadVar' hsp hag hlen (hcell' c' X)).2 rfl x hx]
theorem pure_field {t : TypeId} {x : Operand} {i : Nat} {v : SV} (ho : o.op = .fieldAddr t x i) (hs : fieldPtr P t (evs x) i = some v) (hx : V c (evs x) (ev x)) : Same P ev o c v fun _ => True := by
  simp only [fieldPtr] at hs
  cases hf : tfield P t i with
  | none => simp [hf] at hs
  | some q =>
    obtain ⟨off, ft⟩ := q
    simp only [hf] at hs
    by_cases hz : tsz P ft = 0
    · simp [hz] at hs
    · simp only [hz, if_false] at hs
      obtain ⟨fs, f, hu, hfi, rfl, rfl⟩ : ∃ fs f, P.underlying t = some (.struct fs) ∧ fs[i]? = some f ∧ f.offset = off ∧ f.type = ft := by
        unfold tfield at hf
        cases hu : P.underlying t with
        | none => simp [hu] at hf
        | some d =>
          cases d <;> simp only [hu] at hf <;> try cases hf
          rename_i fs
          simp only [Option.map_eq_some_iff] at hf
          obtain ⟨f, hfi, he⟩ := hf
          cases he
          exact ⟨fs, f, rfl, hfi, rfl, rfl⟩
      obtain ⟨ii, hi, hsz⟩ : ∃ ii, P.info? f.type = some ii ∧ tsz P f.type = ii.size := by
        cases hi : P.info? f.type with
        | none => simp [tsz, Program.cellsOf, hi] at hz
        | some ii => exact ⟨ii, rfl, by simp [tsz, Program.cellsOf, hi]⟩
      have hfp : ∀ (a : Addr) (w : World), (fieldPlace a f).run P w = .ok (a.add f.offset) w := fun a w => by
        simp [fieldPlace, sizeOf, typeInfo, hi, show ¬ ii.size = 0 by omega]
      have hrun : ∀ (a : Addr) (w : World), ev x = .pointer (some a) → (execOp ev o).run P w = .ok (.value (.pointer (some (a.add f.offset)))) w := fun a w ha => by
        simp [execOp, ho, Instr.fieldAt, run_underlying' hu, hfi, ha, Instr.sureAddr, hfp]
      split at hs <;> try (simp at hs; done)
      · rename_i j a hj
        cases hs
        rw [hj, V] at hx
        obtain ⟨b, st, hρ, hxx⟩ := hx
        refine ⟨_, ?_, fun w _ => hrun _ w hxx⟩
        rw [addr_add, V]
        exact ⟨b, st, hρ, by rw [Nat.add_assoc]⟩
      · rename_i cs hj
        cases hs
        rw [hj, V] at hx
        obtain ⟨a, vs, hxx, hst, hc, hsp⟩ := hx
        refine ⟨_, ?_, fun w _ => hrun _ w hxx⟩
        rw [addr_add' hsp, V]
        refine ⟨_, vs.drop f.offset, rfl, ⟨fun _ => rfl, fun hv => hst.free (by rintro rfl; simp at hv), fun j x hj => ?_, fun x hx => hst.one x (List.mem_of_mem_drop hx)⟩, VL_iff.2 ((VL_iff.1 hc).drop _), rfl⟩
        rw [List.getElem?_drop] at hj
        simp only [Nat.add_assoc]
        exact hst.cell _ _ hj
theorem pure_index {t : TypeId} {x y : Operand} {z' : Nat} {es : List SV} {full : Bool} {kk : IntKind} {n : Int} {v : SV} (ho : o.op = .indexAddr t x y) (hj : evs x = .imm z' es full) (hn : evs y = .int kk n) (hsl0 : (tslice P t).isSome = true)
    (hs : indexPtr P t (.imm z' es full) n = some v) (hx : V c (evs x) (ev x)) (hy : V c (evs y) (ev y)) : Same P ev o c v fun _ => True := by
  rw [hn] at hy
  have hy' := vint hy
  obtain ⟨e, hsl⟩ := Option.isSome_iff_exists.1 hsl0
  have hu := tslice_some hsl
  simp only [indexPtr, hsl] at hs
  by_cases hz : tsz P e = 0
  · simp [hz] at hs
  obtain ⟨ii, hi, hsz⟩ := tsz_pos hz
  simp only [hz, if_false] at hs
  by_cases hc : z' = tsz P e ∧ 0 ≤ n
  · simp only [hc, and_self, if_true] at hs
    obtain ⟨hc1, hc2⟩ := hc
    cases he : es[n.toNat]? with
    | none => simp [he] at hs
    | some v =>
      simp only [he, Option.map_some, Option.some.injEq] at hs
      subst hs
      rw [hj, V] at hx
      rcases hx with ⟨hx, _⟩ | ⟨a, cap, vs, hxx, _, _, hst, hE⟩
      · subst hx; simp at he
      · subst hc1
        have hspot : a.spot = none := hst.spot (fun e0 => by have h1 := VE_len hE; have h2 := (List.getElem?_eq_some_iff.1 he).1; rw [e0, List.length_nil] at h1; have h3 : 0 < es.length * tsz P e := Nat.mul_pos (by omega) (by omega); omega)
        obtain ⟨u, g1, g2, g3, g4, g5⟩ := imm_elem hE he
        have hlt : n < es.length := by have := (List.getElem?_eq_some_iff.1 he).1; omega
        refine ⟨.pointer (some ⟨a.block, a.off + n.toNat * tsz P e, none⟩), ?_, fun w _ => ?_⟩
        · rw [V]
          exact ⟨_, u.cells.toList, rfl, by rw [← g4]; exact hst.sub _ _, VL_iff.2 (g1.cells g2).1, rfl⟩
        · simp [execOp, ho, Instr.indexAt, hy', asIntOf, run_underlying' hu, hxx, hc2, hlt, sizeOf, typeInfo, hi, addr_add' hspot, hsz]
  · simp [hc] at hs
theorem pure_slice {t : TypeId} {x : Operand} {lo hi mx : Option Operand} {z : Nat} {es : List SV} {full : Bool} {v : SV} (ho : o.op = .slice t x lo hi mx) (e1 : evs x = .imm z es full) (hb : sliceS P t (.imm z es full) (lo.map evs) (hi.map evs) (mx.map evs) = some v)
    (H : ∀ y ∈ o.op.operands, V c (evs y) (ev y)) : Same P ev o c v fun _ => True := by
  rw [ho] at H
  have hx := H x (by simp [Op.operands])
  have hlo := optmap_rel (c := c) (ev := ev) (evs := evs) lo fun y e => H y (by subst e; simp [Op.operands])
  have hhi := optmap_rel (c := c) (ev := ev) (evs := evs) hi fun y e => H y (by subst e; simp [Op.operands])
  have hmx := optmap_rel (c := c) (ev := ev) (evs := evs) mx fun y e => H y (by subst e; simp [Op.operands])
  suffices hgoal : ∃ r, (∀ w, (Instr.sliceAt t (ev x) (lo.map ev) (hi.map ev) (mx.map ev)).run P w = .ok r w) ∧ V c v r by
    obtain ⟨r, hr, hv⟩ := hgoal
    exact ⟨r, hv, fun w _ => by simp [execOp, ho, hr w]⟩
  have cvt : ∀ {s : Option SV} {vv : Option Value} {d : Option Int} {n : Int} {N : Nat}, bnd s d = some n → 0 ≤ n → ((∀ x, s = some x → ∃ u, vv = some u ∧ V c x u) ∧ (s = none → vv = none)) → d = some (N : Int) →
      (vv = none ∧ n.toNat = N) ∨ ∃ i, vv = some (.int i n.toNat) := fun hb h0 hv hd => by
    rcases bnd_some hb hv.1 hv.2 with ⟨_, e, e2⟩ | ⟨i, e⟩
    · rw [hd] at e2; cases e2; exact .inl ⟨e, by simp⟩
    · exact .inr ⟨i, by rw [e]; congr 2; omega⟩
  unfold sliceS at hb
  rw [e1] at hx
  dsimp only at hb
  cases hsl' : tslice P t with
  | none => simp [hsl'] at hb
  | some e =>
    have hu := tslice_some hsl'
    simp only [hsl', Option.any_some] at hb
    split at hb <;> try cases hb
    rename_i hz
    simp only [Bool.not_eq_true', Bool.not_eq_false, Bool.and_eq_true, bne_iff_ne, ne_eq, Bool.or_eq_true, beq_iff_eq, List.isEmpty_iff] at hz
    obtain ⟨hz0, hz⟩ := hz
    obtain ⟨ii, hi', hsz⟩ := tsz_pos hz0
    split at hb <;> try cases hb
    rename_i l m hl hm
    split at hb <;> try cases hb
    rename_i hc2
    have hlo' := cvt hl hc2.1 hlo (by rfl : some (0 : Int) = some ((0 : Nat) : Int))
    have hhi' := cvt hm (by omega) hhi rfl
    cases mx with
    | none =>
      simp only [Option.map_none, Option.some.injEq] at hb
      subst hb
      refine slice_imm hu hx ⟨ii, hi', hsz.symm⟩ hz (by omega) (by omega) fun cap h1 h2 => ⟨cap, by omega, Nat.le_refl _, fun hf => ?_, fun w => run_bounds2 hlo' hhi' (by omega) (by omega) h1 w⟩
      simp at hf; have := h2 hf.1; omega
    | some mo =>
      have hmo := hmx.1 _ rfl
      simp only [Option.map_some] at hb hmo
      split at hb <;> try cases hb
      · rename_i heq; cases heq
      · rename_i i x heq
        simp only [Option.some.injEq] at heq
        obtain ⟨uu, hu1, hu2⟩ := hmo
        cases hu1
        rw [heq] at hu2
        have hu3 := vint hu2
        split at hb <;> try cases hb
        rename_i hc3
        simp only [Bool.and_eq_true, decide_eq_true_eq] at hc3
        have hsome : ∃ i, Option.map ev hi = some (.int i m.toNat) := by
          rcases hhi' with ⟨e1, _⟩ | h
          · cases hi <;> simp at e1 hc3
          · exact h
        have hxx : (x : Int) = (x.toNat : Int) := by omega
        refine slice_imm hu hx ⟨ii, hi', hsz.symm⟩ hz (by omega) (by omega) fun cap h1 h2 => ⟨x.toNat, by omega, by omega, fun hf => ?_, fun w => ?_⟩
        · simp at hf; omega
        · rw [Option.map_some, hu3, hxx]; exact run_bounds3 hlo' hsome (by omega) (by omega) (by omega) w
theorem Same.mono {v : SV} {W W' : World → Prop} (H : Same P ev o c v W) (h : ∀ w, W' w → W w) : Same P ev o c v W' := let ⟨u, h1, h2⟩ := H; ⟨u, h1, fun w hw => h2 w (h w hw)⟩
theorem pure_any {st : Bool} {v : SV} (hs : pureS P st evs o.op = some v) (H : ∀ x ∈ o.op.operands, V c (evs x) (ev x)) {W : World → Prop} (hW : st = true → ∀ w, W w → ∃ c', c'.w = w ∧ Ext c c') : Same P ev o c v W := by
  unfold pureS at hs
  split at hs
  · rename_i x ho
    rw [ho] at H
    cases hs
    exact ⟨_, H x (by simp [Op.operands]), fun w _ => by simp [execOp, ho]⟩
  · rename_i x ho
    rw [ho] at H
    cases hs
    exact ⟨_, H x (by simp [Op.operands]), fun w _ => by simp [execOp, ho]⟩
  · rename_i t x i ho
    rw [ho] at H
    exact (pure_field ho hs (H x (by simp [Op.operands]))).mono fun _ _ => trivial
  · rename_i t a ho
    rw [ho] at H
    split at hs <;> try cases hs
    rename_i cs hx
    exact (pure_load ho hx hs (H a (by simp [Op.operands]))).mono (hW rfl)
  · rename_i t x i ho
    rw [ho] at H
    split at hs <;> try cases hs
    rename_i z es f k n hx hy
    split at hs <;> try cases hs
    rename_i hsl
    exact (pure_index ho hx hy hsl hs (H x (by simp [Op.operands])) (H i (by simp [Op.operands]))).mono fun _ _ => trivial
  · rename_i t x lo hi mx ho
    split at hs <;> try cases hs
    rename_i z es f hx
    exact (pure_slice ho hx hs H).mono fun _ _ => trivial
  · rename_i x i ho
    rw [ho] at H
    split at hs <;> try cases hs
    rename_i vs hx
    have hv := H x (by simp [Op.operands])
    rw [hx, V] at hv
    obtain ⟨us, hu, hl⟩ := hv
    obtain ⟨u, hu2, hvu⟩ := (VL_iff.1 hl).get hs
    exact ⟨u, hvu, fun w _ => by simp [execOp, ho, hu, Instr.extract, hu2]⟩
  · rename_i op t x ho
    rw [ho] at H
    have hx := H x (by simp [Op.operands])
    split at hs <;> try cases hs
    rename_i b e1
    rw [e1] at hx
    exact ⟨.bool !b, by rw [V], fun w _ => by simp [execOp, ho, vbool hx, Op.unary]⟩
  · rename_i x a b ho
    rw [ho] at H
    have hx := H x (by simp [Op.operands])
    split at hs <;> try cases hs
    rename_i t e1
    rw [e1] at hx
    have hx' := vbool hx
    cases t
    · exact ⟨ev b, by simpa using H b (by simp [Op.operands]), fun w _ => by simp [execOp, ho, hx', asBool]⟩
    · exact ⟨ev a, by simpa using H a (by simp [Op.operands]), fun w _ => by simp [execOp, ho, hx', asBool]⟩
  · rename_i f a b ho
    rw [ho] at H
    cases hs
    refine ⟨.func f (a.map ev) (b.map ev), ?_, fun w _ => by simp [execOp, ho, Instr.makeFunc]⟩
    rw [V]
    exact ⟨(a.map ev).toList, (b.map ev).toList, by rw [Array.toArray_toList, Array.toArray_toList], VL_iff.2 (map_rel a fun x hx => H x (by simp [Op.operands] at hx ⊢; exact .inl hx)), VL_iff.2 (map_rel b fun x hx => H x (by simp [Op.operands] at hx ⊢; exact .inr hx))⟩
  · rename_i x ho
    rw [ho] at H
    have hx := H x (by simp [Op.operands])
    split at hs <;> try cases hs
    · rename_i j off e1
      rw [e1] at hx
      have hx' := hx
      rw [V] at hx
      obtain ⟨b, st, _, hu⟩ := hx
      exact ⟨ev x, hx', fun w _ => by simp [execOp, ho, hu]⟩
    · rename_i cs e1
      rw [e1] at hx
      have hx' := hx
      rw [V] at hx
      obtain ⟨a, vs, hu, _⟩ := hx
      exact ⟨ev x, hx', fun w _ => by simp [execOp, ho, hu]⟩
  · rename_i args ts ho
    rw [ho] at H
    split at hs <;> try cases hs
    rename_i x y e1
    have ea := args2 e1
    subst ea
    have hx := H x (by simp [Op.operands, Call.operands])
    have hy := H y (by simp [Op.operands, Call.operands])
    split at hs <;> try cases hs
    rename_i k a k' b g1 g2
    split at hs <;> try cases hs
    rename_i hk
    subst hk
    rw [g1] at hx
    rw [g2] at hy
    exact ⟨.int k (if b < a then b else a), by rw [V], fun w _ => run_builtin (P := P) (ev := ev) ho w w _ fun cs => by simp [builtin, vint hx, vint hy, Builtin.min_, Builtin.min2]⟩
  · rename_i args ts ho
    rw [ho] at H
    split at hs <;> try cases hs
    rename_i x y e1
    have ea := args2 e1
    subst ea
    have hx := H x (by simp [Op.operands, Call.operands])
    have hy := H y (by simp [Op.operands, Call.operands])
    split at hs <;> try cases hs
    rename_i k a k' b g1 g2
    split at hs <;> try cases hs
    rename_i hk
    subst hk
    rw [g1] at hx
    rw [g2] at hy
    exact ⟨.int k (if b > a then b else a), by rw [V], fun w _ => run_builtin (P := P) (ev := ev) ho w w _ fun cs => by simp [builtin, vint hx, vint hy, Builtin.max_, Builtin.max2]⟩
  · rename_i op t x y t2 ho
    rw [ho] at H
    have hx := H x (by simp [Op.operands])
    have hy := H y (by simp [Op.operands])
    split at hs <;> try cases hs
    rename_i k a k' b e1 e2
    split at hs <;> try cases hs
    rename_i hc
    obtain ⟨n1, n2, rfl⟩ := hc
    rw [e1] at hx
    rw [e2] at hy
    have hrun : ∀ w, ∃ r, (execOp ev o).run P w = .ok (.value r) w ∧ V c v r := fun w => by
      obtain ⟨r, h1, h2⟩ := intBin_rel (c := c) (P := P) (t := t) hs n1 n2 w
      exact ⟨r, by simp [execOp, ho, vint hx, vint hy, run_eqGuard (P := P), h1], h2⟩
    obtain ⟨u, hu⟩ : ∃ u, ∀ r, V c v r → r = u := by
      cases op <;> simp only [intBin] at hs <;> (try split at hs) <;> (try cases hs) <;> first | exact ⟨_, fun r hr => vint hr⟩ | exact ⟨_, fun r hr => vbool hr⟩ | (exact absurd rfl n1) | (exact absurd rfl n2)
    obtain ⟨r0, h1, h2⟩ := hrun c.w
    have e0 := hu r0 h2
    subst e0
    refine ⟨_, h2, fun w _ => ?_⟩
    obtain ⟨r, h3, h4⟩ := hrun w
    rw [h3, hu r h4]
  · rename_i args ts ho
    rw [ho] at H
    split at hs <;> try cases hs
    rename_i t x e1 e2
    split at hs <;> try cases hs
    rename_i z es f e3
    split at hs <;> try cases hs
    rename_i hsl
    obtain ⟨e, he⟩ := tsome hsl
    have ea := args1 e2
    have et := args1 e1
    subst ea et
    have hv := H x (by simp [Op.operands, Call.operands])
    rw [e3, V] at hv
    refine ⟨.int .i64 es.length, by rw [V], fun w _ => run_builtin (P := P) (ev := ev) ho w w _ fun cs => ?_⟩
    rcases hv with ⟨rfl, hu⟩ | ⟨a, cap, vs, hu, _⟩
    · simp [builtin, hu, Builtin.len_, run_underlying' (tslice_some he), goInt]
    · simp [builtin, hu, Builtin.len_, run_underlying' (tslice_some he), goInt]
  · cases hs
theorem pure_about {st : Bool} {v : SV} (hs : pureS P st evs o.op = some v) (w : World) : o.about P w ev = none := by
  unfold Oper.about
  unfold pureS at hs
  split at hs <;> first | (rename_i ho; rw [ho]; done) | (rename_i _ ho; rw [ho]; done) | (rename_i _ _ ho; rw [ho]; done) | (rename_i _ _ _ ho; rw [ho]; done) | (rename_i _ _ _ _ _ ho; rw [ho]; done) | (rename_i ho; rw [ho]; simp [resolve, Target.leads]; done) | cases hs
def pureKind : Op → Bool
  | .move _ | .assign _ | .fieldAddr .. | .load .. | .indexAddr .. | .slice .. | .extract .. | .unOp .. | .pick .. | .binOp .. | .makeFunc .. | .nilCheck _ => true
  | .call { callee := .builtin .len, .. } | .call { callee := .builtin .min, .. } | .call { callee := .builtin .max, .. } => true
  | _ => false
theorem kind_about (hs : pureKind o.op = true) (w : World) : o.about P w ev = none := by
  unfold Oper.about
  cases ho : o.op <;> simp [ho, pureKind] at hs ⊢
  split at hs <;> first | (rename_i h; cases h; done) | skip
  all_goals first | (rename_i h; cases h; simp [resolve, Target.leads]; done) | (simp at hs; done) | trace_state
end
inductive Tr where
  | nil
  | pure (i : Nat) (t : Tr)
  | one (i : Nat) (t : Tr)
  | two (i j : Nat) (t u : Tr)
def trOk (ops : Array Oper) : Array Bool → Tr → Bool
  | listed, .nil => (Region.ready .any ops listed).isEmpty
  | listed, .pure i t => Region.free .any ops listed i && (Region.ready .any ops listed).contains i && trOk ops (listed.setIfInBounds i true) t
  | listed, .one i t => Region.ready .any ops listed == [i] && trOk ops (listed.setIfInBounds i true) t
  | listed, .two i j t u => Region.ready .any ops listed == [i, j] && trOk ops (listed.setIfInBounds i true) t && trOk ops (listed.setIfInBounds j true) u
section
variable (E : Env) (P : Program) (ops : Array Oper) (K : SA → Hp → Nat → Prop)
def stepG (o : Oper) (sa : SA) (h : Hp) (n : Nat) (T : SA → Hp → Nat → Prop) : Prop :=
  match guardS ops sa o with
  | some b => if b = true then stepE E P o sa h n fun v h' n' => T (putT sa o.dst v) h' n' else T (putT sa o.dst (.tup [])) h n
  | none => False
def pureG (st : Bool) (o : Oper) (sa : SA) (T : SA → Prop) : Prop :=
  match guardS ops sa o with
  | some b => if b = true then match pureS P st (evS sa) o.op with | some v => T (putT sa o.dst v) | none => False else pureKind o.op = true ∧ T (putT sa o.dst (.tup []))
  | none => False
def trW : Bool → Tr → SA → Hp → Nat → Prop
  | _, .nil, sa, h, n => K sa h n
  | st, .pure i t, sa, h, n => match ops[i]? with | some o => pureG P ops st o sa fun sa' => trW st t sa' h n | none => False
  | _, .one i t, sa, h, n => match ops[i]? with | some o => stepG E P ops o sa h n (trW false t) | none => False
  | _, .two i j t u, sa, h, n => match ops[i]?, ops[j]? with | some o, some q => stepG E P ops o sa h n (trW false t) ∧ stepG E P ops q sa h n (trW false u) | _, _ => False
end
section
variable {E : Env} {P : Program} {N : Nat} {ops : Array Oper} {K : SA → Hp → Nat → Prop}
def LiftN (E : Env) (N n : Nat) (c : Cx) (K : SA → Hp → Nat → Prop) : Exit → Act → World → Prop := fun e a' w' =>
  e = .normal ∧ ∃ sa' h' n' c', K sa' h' n' ∧ c'.w = w' ∧ Rel h' c' ∧ Fr n' c' ∧ FR E N sa' c' a' ∧ Adv n c n' c'
theorem stepG_sound {i : Nat} {o : Oper} {sa : SA} {h : Hp} {n : Nat} {T : SA → Hp → Nat → Prop} {c : Cx} {a : Act} {Kr : Act → World → Prop} {Qr : Exit → Act → World → Prop} (hi : ops[i]? = some o) (hd : ∀ d, o.dst = some d → d < N)
    (H : stepG E P ops o sa h n T) (I : E.inv c) (R : Rel h c) (F : Fr n c) (A : FR E N sa c a)
    (hK : ∀ sa' h' n' c' a', T sa' h' n' → Rel h' c' → Fr n' c' → FR E N sa' c' a' → Adv n c n' c' → Kr a' c'.w) : wpOpIn E.fc 0 P ops Qr i Kr a c.w := by
  unfold wpOpIn
  rw [hi]
  simp only
  unfold stepG at H
  split at H
  · rename_i b hg
    rw [guard_rel A hg]
    cases b
    · simp only [Bool.false_eq_true, if_false] at H ⊢
      exact ⟨fun _ _ => trivial, hK _ _ _ c _ H R F (A.put hd V_undef) (Adv.refl n c)⟩
    · simp only [if_true] at H ⊢
      exact stepE_sound H I R F A fun v h' n' c' u hk hv R' F' X' => hK _ _ _ c' _ hk R' F' ((A.ext X'.ext).put hd hv) X'
  · exact H.elim
theorem tr_sound (hro : E.ro = none) (hdst : ∀ (i : Nat) (o : Oper), ops[i]? = some o → ∀ d, o.dst = some d → d < N) (hsel : ∀ (j : Nat) (o : Oper) cs b, ops[j]? = some o → o.op ≠ .select cs b) {n0 : Nat} {c0 c1 : Cx} :
    ∀ (t : Tr) (st : Bool) (listed : Array Bool) (fuel : Nat) (sa : SA) (h : Hp) (n : Nat) (c : Cx) (a : Act), listed.size = ops.size → unl listed = fuel → trOk ops listed t = true → trW E P ops K st t sa h n →
      E.inv c → Rel h c → Fr n c → FR E N sa c a → Adv n0 c0 n c → Ext c1 c → (st = true → c = c1) →
      wpAnyS E.fc 0 P .any ops (LiftN E N n0 c0 K) (fun w => ∃ c', c'.w = w ∧ Ext c1 c') fuel listed a c.w := by
  have hfr : E.fc.round = none := hro
  intro t
  induction t with
  | nil =>
    intro st listed fuel sa h n c a _ _ hok H I R F A X _ _
    have hr : Region.ready .any ops listed = [] := by simpa [trOk] using hok
    have hq : LiftN E N n0 c0 K .normal a c.w := ⟨rfl, sa, h, n, c, H, rfl, R, F, A, X⟩
    cases fuel with
    | zero => exact ⟨hr, hq⟩
    | succ fuel => exact ⟨fun _ => hq, by rw [hr]; simp⟩
  | pure i t ih =>
    intro st listed fuel sa h n c a hs hu hok H I R F A X X1 hst
    simp only [trOk, Bool.and_eq_true] at hok
    obtain ⟨⟨hfree, hr⟩, hok⟩ := hok
    simp only [trW] at H
    split at H
    case h_2 => exact H.elim
    rename_i o ho
    have hmem : i ∈ Region.ready .any ops listed := by simpa using hr
    obtain ⟨hun, _, _, _⟩ := mem_ready.1 hmem
    have hlt := (Array.getElem?_eq_some_iff.1 ho).1
    have hF : listed.getD i false = false := by rw [getD_lt (by omega)] at hun ⊢; exact hun
    have hu2 := unl_set (by omega) hF
    obtain ⟨fuel, rfl⟩ : ∃ f, fuel = f + 1 := ⟨fuel - 1, by omega⟩
    unfold pureG at H
    split at H
    case h_2 => exact H.elim
    rename_i b hg
    have hw := guard_rel A hg
    cases b
    · simp only [Bool.false_eq_true, if_false] at H
      refine wpAnyS_first (v := undef) hfr ho hsel (fun _ _ _ e => by cases e.1) fuel listed a c.w (Region.free_spec ho hfree) hmem ⟨.inr ⟨hw, rfl⟩, fun w => kind_about H.1 w⟩ ⟨c, rfl, X1⟩ (ih st _ fuel _ h n c _ (by simp [hs]) (by omega) hok H.2 I R F (A.put (hdst i o ho) V_undef) X X1 hst)
    · simp only [if_true] at H
      split at H
      case h_2 => exact H.elim
      rename_i v hv
      obtain ⟨u, hvu, hrun⟩ := pure_any (c := c) (W := fun w => ∃ c', c'.w = w ∧ Ext c1 c') hv (fun x _ => A.ev x) (fun e w hw => by rw [hst e]; exact hw)
      refine wpAnyS_first (v := u) hfr ho hsel (fun _ _ _ e => by cases e.1) fuel listed a c.w (Region.free_spec ho hfree) hmem ⟨.inl ⟨hw, hrun⟩, fun w => pure_about hv w⟩ ⟨c, rfl, X1⟩
        (ih st _ fuel _ h n c _ (by simp [hs]) (by omega) hok H I R F (A.put (hdst i o ho) hvu) X X1 hst)
  | one i t ih =>
    intro st listed fuel sa h n c a hs hu hok H I R F A X X1 hst
    simp only [trOk, Bool.and_eq_true, beq_iff_eq] at hok
    obtain ⟨hr, hok⟩ := hok
    simp only [trW] at H
    split at H
    case h_2 => exact H.elim
    rename_i o ho
    have hmem : i ∈ Region.ready .any ops listed := by rw [hr]; simp
    obtain ⟨hun, _, _, _⟩ := mem_ready.1 hmem
    have hlt := (Array.getElem?_eq_some_iff.1 ho).1
    have hF : listed.getD i false = false := by rw [getD_lt (by omega)] at hun ⊢; exact hun
    have hu2 := unl_set (by omega) hF
    obtain ⟨fuel, rfl⟩ : ∃ f, fuel = f + 1 := ⟨fuel - 1, by omega⟩
    refine ⟨fun e => (by rw [e] at hr; cases hr), fun j hj => ?_⟩
    rw [hr] at hj
    obtain rfl := List.mem_singleton.1 hj
    exact stepG_sound ho (hdst j o ho) H I R F A fun sa' h' n' c' a' hT R' F' A' X' => ⟨⟨c', rfl, X1.trans X'.ext⟩, ih false _ fuel _ h' n' c' a' (by simp [hs]) (by omega) hok hT (E.ext X'.ext I) R' F' A' (X.trans X') (X1.trans X'.ext) (by simp)⟩
  | two i j t u iht ihu =>
    intro st listed fuel sa h n c a hs hu hok H I R F A X X1 hst
    simp only [trOk, Bool.and_eq_true, beq_iff_eq] at hok
    obtain ⟨⟨hr, hok1⟩, hok2⟩ := hok
    simp only [trW] at H
    split at H
    case h_2 => exact H.elim
    rename_i o q ho hq
    have hun : ∀ k, k ∈ Region.ready .any ops listed → unl (listed.setIfInBounds k true) + 1 = unl listed := fun k hk => by
      obtain ⟨hun, o', ho', _⟩ := mem_ready.1 hk
      have hlt := (Array.getElem?_eq_some_iff.1 ho').1
      have hF : listed.getD k false = false := by rw [getD_lt (by omega)] at hun ⊢; exact hun
      exact unl_set (by omega) hF
    have hui := hun i (by rw [hr]; simp)
    have huj := hun j (by rw [hr]; simp)
    obtain ⟨fuel, rfl⟩ : ∃ f, fuel = f + 1 := ⟨fuel - 1, by omega⟩
    refine ⟨fun e => (by rw [e] at hr; cases hr), fun k hk => ?_⟩
    rw [hr] at hk
    rcases List.mem_cons.1 hk with rfl | hk
    · exact stepG_sound ho (hdst _ o ho) H.1 I R F A fun sa' h' n' c' a' hT R' F' A' X' => ⟨⟨c', rfl, X1.trans X'.ext⟩, iht false _ fuel _ h' n' c' a' (by simp [hs]) (by omega) hok1 hT (E.ext X'.ext I) R' F' A' (X.trans X') (X1.trans X'.ext) (by simp)⟩
    · obtain rfl := List.mem_singleton.1 hk
      exact stepG_sound hq (hdst _ q hq) H.2 I R F A fun sa' h' n' c' a' hT R' F' A' X' => ⟨⟨c', rfl, X1.trans X'.ext⟩, ihu false _ fuel _ h' n' c' a' (by simp [hs]) (by omega) hok2 hT (E.ext X'.ext I) R' F' A' (X.trans X') (X1.trans X'.ext) (by simp)⟩
theorem SWE_tr (hro : E.ro = none) (hm : P.follows .mixedOrders = true) (t : Tr) {id : Nat} {Q : Post} {sa : SA} {h : Hp} {n : Nat} (hs : Region.noSelect ops = true) (hok : trOk ops (Array.replicate ops.size false) t = true)
    (H : trW E P ops (Q .normal) true t sa h n) : SWE E P N (.region id ops true) Q sa h n := by
  intro hd c a I R F A
  simp only [Code.dok, List.all_eq_true] at hd
  have hdd : ∀ (i : Nat) (o : Oper), ops[i]? = some o → ∀ d, o.dst = some d → d < N := fun i o ho d e => by
    have := hd o (by simpa using Array.mem_of_getElem? ho)
    rw [e] at this; simpa using this
  have := tr_sound (E := E) (P := P) (N := N) (K := Q .normal) (n0 := n) (c0 := c) (c1 := c.drew) hro hdd (Region.noSelect_spec hs) t true (Array.replicate ops.size false) ops.size sa h n c.drew a (by simp) (by simp [unl]) hok H
    (E.ext c.drew_ext I) R.drew (fun j hj => F j hj) (A.ext c.drew_ext) ⟨c.drew_ext, Nat.le_refl _, fun _ _ => rfl⟩ (Ext.refl _) (fun _ => rfl)
  refine wpIn_mono (wpIn_region_any hm (wpAnyIn_of_S (S := fun w => ∃ c', c'.w = w ∧ Ext c.drew c') _ _ _ _ this)) ?_
  rintro e a' w' ⟨rfl, sa', h', n', c', h1, h2, h3, h4, h5, h6⟩
  exact ⟨sa', h', n', c', h1, h2, h3, h4, h5, h6⟩
end
open Proofs
noncomputable def wtr : (E : Env) → (P : Program) → (ops : Array Oper) → (K : SA → Hp → Nat → Prop) → Bool → Tr → SA → Hp → Nat → Prop := Classical.choose (held trW)
theorem wtr_eq : wtr = trW := Classical.choose_spec (held trW)
noncomputable def ktr : (E : Env) → (P : Program) → (ops : Array Oper) → (K : SA → Hp → Nat → Prop) → Tr → SA → Option Tmp → SV → Hp → Nat → Prop :=
  Classical.choose (held fun E P ops K t sa dst v h n => wtr E P ops K false t (putT sa dst v) h n)
section
variable (E : Env) (P : Program) (ops : Array Oper) (K : SA → Hp → Nat → Prop) (st : Bool) (t u : Tr) (sa : SA) (h : Hp) (n i j : Nat)
@[go_sem] theorem ktr_at (dst : Option Tmp) (v : SV) : ktr E P ops K t sa dst v h n = wtr E P ops K false t (putT sa dst v) h n := by
  unfold ktr; rw [Classical.choose_spec (held fun E P ops K t sa dst v h n => wtr E P ops K false t (putT sa dst v) h n)]
theorem ktr_fun (o : Oper) : ktr E P ops K t sa o.dst = fun v h' n' => trW E P ops K false t (putT sa o.dst v) h' n' := by
  funext v h' n'; rw [ktr_at, wtr_eq]
@[go_sem] theorem wtr_nil : wtr E P ops K st .nil sa h n = K sa h n := by rw [wtr_eq]; simp only [trW]
@[go_sem] theorem wtr_pure : wtr E P ops K st (.pure i t) sa h n = match ops[i]? with
    | some o => (match guardS ops sa o with
      | some b => if b = true then (match pureS P st (evS sa) o.op with | some v => wtr E P ops K st t (putT sa o.dst v) h n | none => False) else pureKind o.op = true ∧ wtr E P ops K st t (putT sa o.dst (.tup [])) h n
      | none => False)
    | none => False := by
  rw [wtr_eq]; simp only [trW, pureG]
  all_goals
    cases ops[i]? with
    | none => rfl
    | some o =>
      simp only
      cases guardS ops sa o with
      | none => rfl
      | some b => cases b with
        | false => rfl
        | true => simp only [if_true]; cases pureS P st (evS sa) o.op <;> rfl
def stepT (o : Oper) : Prop :=
  match guardS ops sa o with
  | some b => if b = true then stepE E P o sa h n (ktr E P ops K t sa o.dst) else wtr E P ops K false t (putT sa o.dst (.tup [])) h n
  | none => False
theorem stepT_eq (o : Oper) : stepT E P ops K t sa h n o = stepG E P ops o sa h n (trW E P ops K false t) := by
  unfold stepT stepG
  rw [ktr_fun, wtr_eq]
  all_goals
    cases guardS ops sa o with
    | none => rfl
    | some b => cases b <;> rfl
@[go_sem] theorem wtr_one : wtr E P ops K st (.one i t) sa h n = match ops[i]? with | some o => stepT E P ops K t sa h n o | none => False := by
  rw [wtr_eq]; simp only [trW, stepT_eq] <;> cases ops[i]? <;> rfl
@[go_sem] theorem wtr_two : wtr E P ops K st (.two i j t u) sa h n = match ops[i]?, ops[j]? with | some o, some q => stepT E P ops K t sa h n o ∧ stepT E P ops K u sa h n q | _, _ => False := by
  rw [wtr_eq]; simp only [trW, stepT_eq] <;> cases ops[i]? <;> cases ops[j]? <;> rfl
end
attribute [go_sem] stepT pureS pureKind
theorem SP_tr {E : Env} {N id : Nat} {ops : Array Oper} {Q : Post} {sa : SA} {h : Hp} {n : Nat} (t : Tr) (hro : E.ro = none) (hs : Region.noSelect ops = true) (hok : trOk ops (Array.replicate ops.size false) t = true)
    (H : wtr E Tryz.prog ops (Q .normal) true t sa h n) : SP E N (.region id ops true) Q sa h n :=
  SWE_tr hro follows t hs hok (by rw [← wtr_eq]; exact H)
end Go.Proofs.YthinbkgpjmjfeaaGreatDoor.Sh
namespace Go.Proofs
open Go.Shelf
end Go.Proofs
namespace Go.Proofs.YthinbkgpjmjfeaaGreatDoor.Sh
open Proofs
section
variable {h : Hp} {c : Cx}
end
def sortI (l : List Int) : List Int := l.mergeSort fun x y => decide (x ≤ y)
set_option maxRecDepth 10000
def kvT (l : List Int) : List (SV × SV) := l.map fun x => (intE x, .bool true)
theorem findS_no {x : Int} : ∀ {l : List Int} (i : Nat), x ∉ l → findS (intE x) (kvT l) i = some none
  | [], i, _ => rfl
  | a :: l, i, h => by
    simp only [List.mem_cons, not_or] at h
    have : (x == a) = false := by simpa using h.1
    simp only [kvT, List.map_cons, findS, keyEq, if_true, this]
    exact findS_no (i + 1) h.2
theorem findS_yes {x : Int} : ∀ {l : List Int} (i : Nat), x ∈ l → ∃ j, findS (intE x) (kvT l) i = some (some (i + j, .bool true)) ∧ l[j]? = some x
  | a :: l, i, h => by
    by_cases e : x = a
    · subst e
      exact ⟨0, by simp [kvT, findS, keyEq], by simp⟩
    · have h' : x ∈ l := by rcases List.mem_cons.1 h with h | h; exact absurd h e; exact h
      obtain ⟨j, h1, h2⟩ := findS_yes (i + 1) h'
      have : (x == a) = false := by simpa using e
      refine ⟨j + 1, ?_, by simpa using h2⟩
      simp only [kvT, List.map_cons, findS, keyEq, if_true, this]
      rw [show i + (j + 1) = i + 1 + j by omega]
      exact h1
theorem setAt_same {x : Int} {l : List Int} {j : Nat} (h : l[j]? = some x) : setAt (kvT l) j (intE x) (.bool true) = kvT l := by
  unfold setAt kvT
  apply List.ext_getElem?
  intro i
  simp only [List.getElem?_modify, List.getElem?_map]
  by_cases e : j = i
  · subst e; simp [h]
  · cases l[i]? <;> simp [e]
theorem SC.use {E : Env} {f : FuncId} {args : List SV} {h : Hp} {n : Nat} {Q K : SV → Hp → Nat → Prop} (H : SCall Tryz.prog f args h n Q) (hk : ∀ v h' n', Q v h' n' → K v h' n') : SCallE E Tryz.prog f args h n K := SCallE.lift (H.mono hk)
theorem flat_int : ∀ l : List Int, (l.map intE).flatMap SV.cells = l.map intE
  | [] => rfl
  | a :: l => by simp [SV.cells, flat_int l]
theorem YCallE.mono {E : Env} {P : Program} {l : Nat} {args : List SV} {h : Hp} {n : Nat} {Q Q' : SV → Hp → Nat → Prop} (H : YCallE E P l args h n Q) (hq : ∀ v h' n', Q v h' n' → Q' v h' n') : YCallE E P l args h n Q' := fun c vs I R F A => by
  obtain ⟨a, b, c', d, e, g⟩ := H c vs I R F A
  exact ⟨a, b, c', d, e, g.mono fun _ _ ⟨u, v, h', n', c', e, q, r⟩ => ⟨u, v, h', n', c', e, hq _ _ _ q, r⟩⟩
def WalkQ (J : (Nat → Prop) → Hp → Nat → Prop) (Jx : (Nat → Prop) → Hp → Nat → Prop) (D : Nat → Prop) (h : Hp) (m : Nat) : SV → Hp → Nat → Prop := fun v h' m' =>
  m ≤ m' ∧ ∃ D', (∀ o, D' o → D o ∨ (m ≤ o ∧ o < m')) ∧ (∀ o, ¬ D o → o < m → h' o = h o) ∧ ((v = .bool true ∧ J D' h' m') ∨ (v = .bool false ∧ Jx D' h' m'))
structure YJ (E : Env) (l : Nat) {X : Type} (enc : X → List SV) (xs : List X) (J : Nat → (Nat → Prop) → Hp → Nat → Prop) (Jx : (Nat → Prop) → Hp → Nat → Prop) : Prop where
  step : ∀ k x D h m, xs[k]? = some x → J k D h m → YCallE E Tryz.prog l (enc x) h m (WalkQ (J (k + 1)) Jx D h m)
  keep : ∀ k D h m h' m', J k D h m → m ≤ m' → (∀ o, D o → h' o = h o) → J k D h' m'
  lt : ∀ k D h m, J k D h m → ∀ o, D o → o < m
def Seg {X : Type} (xs : List X) (k : Nat) (L : List X) : Prop := ∃ rest, xs.drop k = L ++ rest
theorem Seg.app {X : Type} {xs A B : List X} {k : Nat} (H : Seg xs k (A ++ B)) : Seg xs k A ∧ Seg xs (k + A.length) B := by
  obtain ⟨r, h⟩ := H
  refine ⟨⟨B ++ r, by rw [h, List.append_assoc]⟩, ⟨r, ?_⟩⟩
  rw [← List.drop_drop, h, List.append_assoc, List.drop_left]
theorem Seg.head {X : Type} {xs L : List X} {x : X} {k : Nat} (H : Seg xs k (x :: L)) : xs[k]? = some x ∧ Seg xs (k + 1) L := by
  obtain ⟨r, h⟩ := H
  have h1 : (xs.drop k)[0]? = some x := by rw [h]; rfl
  refine ⟨by simpa using h1, r, ?_⟩
  rw [← List.drop_drop, h]; rfl
section
variable {E : Env} {yl : Nat} {X : Type} {enc : X → List SV} {xs : List X} {J : Nat → (Nat → Prop) → Hp → Nat → Prop} {Jx : (Nat → Prop) → Hp → Nat → Prop}
structure Mid (J : Nat → (Nat → Prop) → Hp → Nat → Prop) (D : Nat → Prop) (h : Hp) (m : Nat) (own : List (Nat × SObj)) (cnt : Nat) (D2 : Nat → Prop) (h2 : Hp) (m2 : Nat) : Prop where
  lt : m ≤ m2
  j : J cnt D2 h2 m2
  own : ∀ p ∈ own, h2 p.1 = some p.2 ∧ m ≤ p.1 ∧ p.1 < m2 ∧ ¬ D2 p.1
  sub : ∀ o, D2 o → D o ∨ (m ≤ o ∧ o < m2)
  old : ∀ o, ¬ D o → o < m → h2 o = h o
theorem Mid.keep (Y : YJ E yl enc xs J Jx) {D : Nat → Prop} {h : Hp} {m : Nat} {own : List (Nat × SObj)} {cnt : Nat} {D2 : Nat → Prop} {h2 : Hp} {m2 : Nat} (M : Mid J D h m own cnt D2 h2 m2) {hb : Hp} {mb : Nat} (hm : m2 ≤ mb) (hh : ∀ o, o < m2 → hb o = h2 o) : J cnt D2 hb mb :=
  Y.keep _ _ _ _ _ _ M.j hm fun o g => hh o (Y.lt _ _ _ _ M.j o g)
theorem Mid.step {D : Nat → Prop} {h : Hp} {m : Nat} {own : List (Nat × SObj)} {cnt cnt' : Nat} {D2 : Nat → Prop} {h2 : Hp} {m2 : Nat} (M : Mid J D h m own cnt D2 h2 m2) {hb : Hp} {mb : Nat} (hm : m2 ≤ mb) (hh : ∀ o, o < m2 → hb o = h2 o)
    {v : SV} {h3 : Hp} {m3 : Nat} (W : WalkQ (J cnt') Jx D2 hb mb v h3 m3) : (v = .bool true ∧ ∃ D3, Mid J D h m own cnt' D3 h3 m3) ∨ (v = .bool false ∧ WalkQ (J cnt') Jx D h m v h3 m3) := by
  obtain ⟨hm3, D3, hDD, hold, hv⟩ := W
  have h1 : ∀ o, D3 o → D o ∨ (m ≤ o ∧ o < m3) := fun o g => by
    rcases hDD o g with g | g
    · rcases M.sub o g with g | g
      · exact .inl g
      · exact .inr (by omega)
    · have := M.lt; exact .inr (by omega)
  have h4 : ∀ o, ¬ D o → o < m → h3 o = h o := fun o g1 g2 => by
    have hn : ¬ D2 o := fun g => by rcases M.sub o g with g | g; exact g1 g; omega
    have := M.lt
    rw [hold o hn (by omega), hh o (by omega), M.old o g1 g2]
  have := M.lt
  rcases hv with ⟨rfl, hj⟩ | ⟨rfl, hj⟩
  · refine .inl ⟨rfl, D3, by omega, hj, fun p hp => ?_, h1, h4⟩
    obtain ⟨g1, g2, g3, g4⟩ := M.own p hp
    refine ⟨by rw [hold _ g4 (by omega), hh _ g3, g1], g2, by omega, fun g => ?_⟩
    rcases hDD _ g with g | g
    · exact g4 g
    · omega
  · exact .inr ⟨rfl, by omega, D3, h1, h4, .inr ⟨rfl, hj⟩⟩
theorem Mid.done {D : Nat → Prop} {h : Hp} {m : Nat} {own : List (Nat × SObj)} {cnt : Nat} {D2 : Nat → Prop} {h2 : Hp} {m2 : Nat} (M : Mid J D h m own cnt D2 h2 m2) : WalkQ (J cnt) Jx D h m (.bool true) h2 m2 :=
  ⟨M.lt, D2, M.sub, M.old, .inl ⟨rfl, M.j⟩⟩
theorem Mid.more (Y : YJ E yl enc xs J Jx) {D : Nat → Prop} {h : Hp} {m : Nat} {own : List (Nat × SObj)} {cnt : Nat} {D2 : Nat → Prop} {h2 : Hp} {m2 : Nat} (M : Mid J D h m own cnt D2 h2 m2) {hb : Hp} {mb : Nat} (hm : m2 ≤ mb) (hh : ∀ o, o < m2 → hb o = h2 o) : Mid J D h m own cnt D2 hb mb :=
  ⟨Nat.le_trans M.lt hm, M.keep Y hm hh, fun p hp => by obtain ⟨g1, g2, g3, g4⟩ := M.own p hp; exact ⟨by rw [hh _ g3, g1], g2, by omega, g4⟩, fun o g => by rcases M.sub o g with g | g; exact .inl g; exact .inr (by omega), fun o g1 g2 => by have := M.lt; rw [hh o (by omega), M.old o g1 g2]⟩
theorem Mid.any {cnt cnt' : Nat} {D : Nat → Prop} {h : Hp} {m : Nat} {h2 : Hp} {m2 : Nat} (H : WalkQ (J cnt) Jx D h m (.bool false) h2 m2) : WalkQ (J cnt') Jx D h m (.bool false) h2 m2 := by
  obtain ⟨a, D', b, c, d | d⟩ := H
  · exact absurd d.1 (by simp)
  · exact ⟨a, D', b, c, .inr d⟩
end
structure Place where
  body : Bool
  note : Bool
  tables : Int
def Place.enc (p : Place) : SV := .agg [.bool p.body, .bool p.note, intE p.tables]
structure Fl where
  id : Int
  items : List Item
  at_ : Place
def Fl.enc (f : Fl) : List SV := [intE f.id, .agg [itemsE f.items, .bool f.at_.body, .bool f.at_.note, intE f.at_.tables]]
def Place.inNote (p : Place) : Place := ⟨false, true, p.tables⟩
def Place.inTable (p : Place) : Place := ⟨false, p.note, IntKind.i64.wrap (p.tables + 1)⟩
mutual
def Item.fl (p : Place) : Item → List Fl
  | .mk k _ i _ _ f r => if k = 6 then ⟨i, f, p.inNote⟩ :: Item.flL p.inNote f else if k = 7 then Row.flL p.inTable r else []
def Item.flL (p : Place) : List Item → List Fl
  | [] => []
  | x :: l => Item.fl p x ++ Item.flL p l
def Row.fl (p : Place) : Row → List Fl
  | .mk _ c => Cell.flL p c
def Row.flL (p : Place) : List Row → List Fl
  | [] => []
  | x :: l => Row.fl p x ++ Row.flL p l
def Cell.fl (p : Place) : Cell → List Fl
  | .mk i _ f => ⟨i, f, p⟩ :: Item.flL p f
def Cell.flL (p : Place) : List Cell → List Fl
  | [] => []
  | x :: l => Cell.fl p x ++ Cell.flL p l
end
def flowsOf (id : Int) (l : List Item) (p : Place) : List Fl := ⟨id, l, p⟩ :: Item.flL p l
theorem Item.flL_take (p : Place) : ∀ (l : List Item) (i : Nat) (h : i < l.length), ∃ r, Item.flL p l = Item.flL p (l.take i) ++ (Item.fl p l[i] ++ r) ∧ Item.flL p (l.take (i + 1)) = Item.flL p (l.take i) ++ Item.fl p l[i]
  | x :: l, 0, _ => ⟨Item.flL p l, by simp [Item.flL]⟩
  | x :: l, i + 1, h => by
    obtain ⟨r, h1, h2⟩ := Item.flL_take p l i (by simpa using h)
    exact ⟨r, by simp only [Item.flL, List.take_succ_cons, List.getElem_cons_succ]; rw [h1, h2]; simp⟩
theorem Row.flL_take (p : Place) : ∀ (l : List Row) (i : Nat) (h : i < l.length), ∃ r, Row.flL p l = Row.flL p (l.take i) ++ (Row.fl p l[i] ++ r) ∧ Row.flL p (l.take (i + 1)) = Row.flL p (l.take i) ++ Row.fl p l[i]
  | x :: l, 0, _ => ⟨Row.flL p l, by simp [Row.flL]⟩
  | x :: l, i + 1, h => by
    obtain ⟨r, h1, h2⟩ := Row.flL_take p l i (by simpa using h)
    exact ⟨r, by simp only [Row.flL, List.take_succ_cons, List.getElem_cons_succ]; rw [h1, h2]; simp⟩
theorem Cell.flL_take (p : Place) : ∀ (l : List Cell) (i : Nat) (h : i < l.length), ∃ r, Cell.flL p l = Cell.flL p (l.take i) ++ (Cell.fl p l[i] ++ r) ∧ Cell.flL p (l.take (i + 1)) = Cell.flL p (l.take i) ++ Cell.fl p l[i]
  | x :: l, 0, _ => ⟨Cell.flL p l, by simp [Cell.flL]⟩
  | x :: l, i + 1, h => by
    obtain ⟨r, h1, h2⟩ := Cell.flL_take p l i (by simpa using h)
    exact ⟨r, by simp only [Cell.flL, List.take_succ_cons, List.getElem_cons_succ]; rw [h1, h2]; simp⟩
theorem flow_size {l : List Item} {x : Item} (h : x ∈ l) : SizeOf.sizeOf x.flow < SizeOf.sizeOf l := by
  have := List.sizeOf_lt_of_mem h
  cases x; simp only [Item.flow, Item.mk.sizeOf_spec] at *; omega
theorem cell_size {l : List Item} {x : Item} {r : Row} {c : Cell} (h : x ∈ l) (hr : r ∈ x.rows) (hc : c ∈ r.cells) : SizeOf.sizeOf c.flow < SizeOf.sizeOf l := by
  have h1 := List.sizeOf_lt_of_mem h
  have h2 := List.sizeOf_lt_of_mem hr
  have h3 := List.sizeOf_lt_of_mem hc
  cases x; cases r; cases c
  simp only [Item.rows, Row.cells, Cell.flow, Item.mk.sizeOf_spec, Row.mk.sizeOf_spec, Cell.mk.sizeOf_spec] at *; omega
section
variable {E : Env} {yl : Nat} {xs : List Fl} {J : Nat → (Nat → Prop) → Hp → Nat → Prop} {Jx : (Nat → Prop) → Hp → Nat → Prop}
theorem c248 (Y : YJ E yl Fl.enc xs J Jx) : ∀ (N : Nat) (l : List Item), SizeOf.sizeOf l < N → l.length ≤ 1048576 → Item.sizedL l → ∀ (id : Int) (p : Place) (k : Nat) (D : Nat → Prop) (h : Hp) (m : Nat), J k D h m → Seg xs k (flowsOf id l p) →
    SCallE E Tryz.prog 207 [intE id, itemsE l, p.enc, .fn (.yield yl) [] []] h m (WalkQ (J (k + (flowsOf id l p).length)) Jx D h m) := by
  intro N
  induction N with
  | zero => intro l h; omega
  | succ N ih =>
  intro l hN hl hs id p k D h m hJ hseg
  obtain ⟨hx0, hseg'⟩ := hseg.head
  refine go Tryz.func207 rfl (by kernel_rfl) (by kernel_rfl) (by simp [go_sem]) fun ho => ?_
  simp [go_sem, Place.enc, hset_at]
  have hD : ∀ o, D o → o < m := Y.lt k D h m hJ
  have hJ1 : J k D (hset h m (some (.cells [.bool p.body, .bool p.note, intE p.tables]))) (m + 1) := Y.keep k D h m _ _ hJ (by omega) fun o hDo => hset_ne _ _ (by have := hD o hDo; omega)
  have M0 : Mid J D h m [(m, .cells [.bool p.body, .bool p.note, intE p.tables])] k D (hset h m (some (.cells [.bool p.body, .bool p.note, intE p.tables]))) (m + 1) :=
    ⟨by omega, hJ1, by simp [hset_at]; exact fun g => absurd (hD m g) (by omega), fun o g => .inl g, fun o _ g => hset_ne _ _ (by omega)⟩
  refine YCallE.mono (Y.step k _ D _ _ hx0 hJ1) ?_
  intro v h1 m1 W
  rcases M0.step (Nat.le_refl _) (fun _ _ => rfl) W with ⟨rfl, D1, M1⟩ | ⟨rfl, hX⟩
  · simp [go_sem]
    refine goloop 1 (α := Nat × (Nat → Prop) × Hp) (fun q => [(3, .fn (.yield yl) [] []), (6, .ptr m 0), (22, itemsE l), (23, intE l.length), (24, intE q.1)]) (fun q => q.2.2)
      (fun q m' => q.1 ≤ l.length ∧ Mid J D h m [(m, .cells [.bool p.body, .bool p.note, intE p.tables])] (k + 1 + (Item.flL p (l.take q.1)).length) q.2.1 q.2.2 m') (fun q => l.length - q.1) (0, D1, h1) ?_ ?_ look_same ?_
    · exact ⟨Nat.zero_le _, by simpa [Item.flL] using M1⟩
    · simp [look]
    rintro ⟨i, D2, h2⟩ m2 ⟨hi, M2⟩
    dsimp only at hi M2 ⊢
    obtain ⟨hp2, _, hne, _⟩ := M2.own _ (List.mem_singleton.2 rfl)
    dsimp only at hp2 hne
    have hne' : m ≠ m2 := by omega
    by_cases hlt : i < l.length
    · have w1 : IntKind.i64.wrap ((i : Int) + 1) = ((i + 1 : Nat) : Int) := by rw [wr64] <;> omega
      obtain ⟨x, hx⟩ : ∃ x, l[i] = x := ⟨_, rfl⟩
      have hxm : x ∈ l := by rw [← hx]; exact List.getElem_mem hlt
      have hxs := Item.sizedL_mem hs x hxm
      obtain ⟨r, hfl1, hfl2⟩ := Item.flL_take p l i hlt
      rw [hx] at hfl1 hfl2
      have hcnt : k + 1 + (Item.flL p (l.take (i + 1))).length = k + 1 + (Item.flL p (l.take i)).length + (Item.fl p x).length := by rw [hfl2]; simp; omega
      have hsegx : Seg xs (k + 1 + (Item.flL p (l.take i)).length) (Item.fl p x) := by rw [hfl1] at hseg'; exact (hseg'.app).2.app.1
      have hb2 : ∀ y z, ∀ o, o < m2 → (hset (hset h2 m2 y) m2 z) o = h2 o := fun y z o g => by rw [hset_ne _ _ (by omega), hset_ne _ _ (by omega)]
      by_cases k6 : x.kind = 6
      · have hfx : Item.fl p x = flowsOf x.id x.flow p.inNote := by cases x; simp only [Item.kind] at k6; simp [Item.fl, k6, flowsOf, Item.id, Item.flow]
        have hxf : x.flow.length ≤ 1048576 ∧ Item.sizedL x.flow := by cases x; rw [Item.sized] at hxs; exact ⟨hxs.2.2.1, hxs.2.2.2.2.1⟩
        simp [go_sem, hlt, hx, Item.enc_eq, hset_at, hset_ne, k6, hp2, hne']
        refine SCallE.mono (ih x.flow (by have := flow_size hxm; omega) hxf.1 hxf.2 x.id p.inNote _ D2 _ _ (M2.keep Y (Nat.le_succ m2) (hb2 _ _)) (by rw [← hfx]; exact hsegx)) ?_
        intro v h3 m3 W
        rcases M2.step (Nat.le_succ m2) (hb2 _ _) W with ⟨rfl, D3, M3⟩ | ⟨rfl, hX⟩
        · simp [go_sem, w1, -Int.natCast_add]
          exact ⟨i + 1, by omega, D3, h3, ⟨by omega, by rw [hcnt, hfx]; exact M3⟩, Fz.same, look_same⟩
        · simp [go_sem]
          exact .inl (Mid.any hX)
      · by_cases k7 : x.kind = 7
        · simp [go_sem, hlt, hx, Item.enc_eq, hset_at, k7]
          have hfx : Item.fl p x = Row.flL p.inTable x.rows := by cases x; simp only [Item.kind] at k6 k7; simp [Item.fl, k7, Item.rows]
          have hxr : x.rows.length ≤ 1048576 ∧ Row.sizedL x.rows := by cases x; rw [Item.sized] at hxs; exact ⟨hxs.2.2.2.1, hxs.2.2.2.2.2⟩
          rw [hfx] at hsegx hcnt
          generalize hk' : k + 1 + (Item.flL p (l.take i)).length = k' at hsegx hcnt M2
          refine goloop 1 (α := Nat × (Nat → Prop) × Hp) (fun q => [(3, .fn (.yield yl) [] []), (6, .ptr m 0), (22, itemsE l), (23, intE l.length), (24, intE i), (45, rowsE x.rows), (46, intE x.rows.length), (47, intE q.1)]) (fun q => q.2.2)
            (fun q m' => q.1 ≤ x.rows.length ∧ Mid J D h m [(m, .cells [.bool p.body, .bool p.note, intE p.tables])] (k' + (Row.flL p.inTable (x.rows.take q.1)).length) q.2.1 q.2.2 m') (fun q => x.rows.length - q.1) (0, D2, _) ?_ ?_ look_same ?_
          · exact ⟨Nat.zero_le _, by dsimp only; rw [List.take_zero, Row.flL]; exact M2.more Y (Nat.le_succ m2) (hb2 _ _)⟩
          · simp [look]
          clear hb2
          rintro ⟨j, D3, h3⟩ m3 ⟨hj, M3⟩
          dsimp only at hj M3 ⊢
          obtain ⟨hp3, _, hne3, _⟩ := M3.own _ (List.mem_singleton.2 rfl)
          dsimp only at hp3 hne3
          have hne3' : m ≠ m3 := by omega
          by_cases hjt : j < x.rows.length
          · have w2 : IntKind.i64.wrap ((j : Int) + 1) = ((j + 1 : Nat) : Int) := by rw [wr64] <;> omega
            obtain ⟨y, hy⟩ : ∃ y, x.rows[j] = y := ⟨_, rfl⟩
            have hym : y ∈ x.rows := by rw [← hy]; exact List.getElem_mem hjt
            have hys := Row.sizedL_mem hxr.2 y hym
            obtain ⟨r2, hr1, hr2⟩ := Row.flL_take p.inTable x.rows j hjt
            rw [hy] at hr1 hr2
            have hcnt2 : k' + (Row.flL p.inTable (x.rows.take (j + 1))).length = k' + (Row.flL p.inTable (x.rows.take j)).length + (Row.fl p.inTable y).length := by rw [hr2]; simp; omega
            have hsegy : Seg xs (k' + (Row.flL p.inTable (x.rows.take j)).length) (Row.fl p.inTable y) := by rw [hr1] at hsegx; exact (hsegx.app).2.app.1
            have hfy : Row.fl p.inTable y = Cell.flL p.inTable y.cells := by cases y; simp [Row.fl, Row.cells]
            have hyc : y.cells.length ≤ 1048576 ∧ Cell.sizedL y.cells := by cases y; rw [Row.sized] at hys; exact ⟨hys.2.1, hys.2.2⟩
            rw [hfy] at hsegy hcnt2
            have hb3 : ∀ y z, ∀ o, o < m3 → (hset (hset h3 m3 y) m3 z) o = h3 o := fun y z o g => by rw [hset_ne _ _ (by omega), hset_ne _ _ (by omega)]
            simp [go_sem, hjt, hy, Row.enc_eq, hset_at]
            generalize hk2 : k' + (Row.flL p.inTable (x.rows.take j)).length = k2 at hsegy hcnt2 M3
            refine goloop 1 (α := Nat × (Nat → Prop) × Hp) (fun q => [(3, .fn (.yield yl) [] []), (6, .ptr m 0), (22, itemsE l), (23, intE l.length), (24, intE i), (45, rowsE x.rows), (46, intE x.rows.length), (47, intE j), (52, cellsE y.cells), (53, intE y.cells.length), (54, intE q.1)]) (fun q => q.2.2)
              (fun q m' => q.1 ≤ y.cells.length ∧ Mid J D h m [(m, .cells [.bool p.body, .bool p.note, intE p.tables])] (k2 + (Cell.flL p.inTable (y.cells.take q.1)).length) q.2.1 q.2.2 m') (fun q => y.cells.length - q.1) (0, D3, _) ?_ ?_ look_same ?_
            · exact ⟨Nat.zero_le _, by dsimp only; rw [List.take_zero, Cell.flL]; exact M3.more Y (Nat.le_succ m3) (hb3 _ _)⟩
            · simp [look]
            clear hb3
            rintro ⟨q, D4, h4⟩ m4 ⟨hq, M4⟩
            dsimp only at hq M4 ⊢
            obtain ⟨hp4, _, hne4, _⟩ := M4.own _ (List.mem_singleton.2 rfl)
            dsimp only at hp4 hne4
            have hne4' : m ≠ m4 := by omega
            by_cases hqt : q < y.cells.length
            · have w3 : IntKind.i64.wrap ((q : Int) + 1) = ((q + 1 : Nat) : Int) := by rw [wr64] <;> omega
              obtain ⟨z, hz⟩ : ∃ z, y.cells[q] = z := ⟨_, rfl⟩
              have hzm : z ∈ y.cells := by rw [← hz]; exact List.getElem_mem hqt
              have hzs := Cell.sizedL_mem hyc.2 z hzm
              obtain ⟨r3, hc1, hc2⟩ := Cell.flL_take p.inTable y.cells q hqt
              rw [hz] at hc1 hc2
              have hfz : Cell.fl p.inTable z = flowsOf z.id z.flow p.inTable := by cases z; simp [Cell.fl, flowsOf, Cell.id, Cell.flow]
              have hcnt3 : k2 + (Cell.flL p.inTable (y.cells.take (q + 1))).length = k2 + (Cell.flL p.inTable (y.cells.take q)).length + (flowsOf z.id z.flow p.inTable).length := by rw [hc2, hfz]; simp; omega
              have hsegz : Seg xs (k2 + (Cell.flL p.inTable (y.cells.take q)).length) (flowsOf z.id z.flow p.inTable) := by rw [hc1, hfz] at hsegy; exact (hsegy.app).2.app.1
              have hzf : z.flow.length ≤ 1048576 ∧ Item.sizedL z.flow := by cases z; rw [Cell.sized] at hzs; exact ⟨hzs.2.1, hzs.2.2⟩
              have hb4 : ∀ y z, ∀ o, o < m4 → (hset (hset h4 m4 y) m4 z) o = h4 o := fun y z o g => by rw [hset_ne _ _ (by omega), hset_ne _ _ (by omega)]
              simp [go_sem, hqt, hz, Cell.enc_eq, hset_at, hset_ne, hp4, hne4']
              refine SCallE.mono (ih z.flow (by have := cell_size hxm hym hzm; omega) hzf.1 hzf.2 z.id p.inTable _ D4 _ _ (M4.keep Y (Nat.le_succ m4) (hb4 _ _)) hsegz) ?_
              intro v h5 m5 W
              rcases M4.step (Nat.le_succ m4) (hb4 _ _) W with ⟨rfl, D5, M5⟩ | ⟨rfl, hX⟩
              · simp [go_sem, w3, -Int.natCast_add]
                exact ⟨q + 1, by omega, D5, h5, ⟨by omega, by rw [hcnt3]; exact M5⟩, Fz.same, look_same⟩
              · simp [go_sem]
                exact .inl (Mid.any hX)
            · have : q = y.cells.length := by omega
              subst this
              rw [List.take_length] at M4
              simp [go_sem, w2, -Int.natCast_add]
              exact ⟨j + 1, by omega, D4, h4, ⟨by omega, by rw [hcnt2]; exact M4⟩, Fz.same, look_same⟩
          · have : j = x.rows.length := by omega
            subst this
            rw [List.take_length] at M3
            simp [go_sem, w1, -Int.natCast_add]
            exact ⟨i + 1, by omega, D3, h3, ⟨by omega, by rw [hcnt]; exact M3⟩, Fz.same, look_same⟩
        · have hfx : Item.fl p x = [] := by cases x; simp only [Item.kind] at k6 k7; simp [Item.fl, k6, k7]
          simp [go_sem, hlt, hx, Item.enc_eq, hset_at, k6, k7, w1, -Int.natCast_add]
          exact ⟨i + 1, by omega, D2, _, ⟨by omega, by rw [hcnt, hfx]; exact M2.more Y (Nat.le_succ m2) (hb2 _ _)⟩, Fz.same, look_same⟩
    · have : i = l.length := by omega
      subst this
      simp [go_sem]
      rw [List.take_length] at M2
      exact .inl (by have := M2.done (Jx := Jx); simpa [flowsOf, Nat.add_assoc, Nat.add_comm 1] using this)
  · simp [go_sem]
    exact .inl (Mid.any hX)
end
def Fl.ok (f : Fl) : Prop := f.items.length ≤ 1048576 ∧ Item.sizedL f.items
mutual
theorem Item.fl_ok (p : Place) : ∀ x : Item, x.sized → ∀ f ∈ Item.fl p x, f.ok
  | .mk k c i t hd f r, hs => by
    rw [Item.sized] at hs
    rw [Item.fl]
    split
    · intro g hg
      rcases List.mem_cons.1 hg with rfl | hg
      · exact ⟨hs.2.2.1, hs.2.2.2.2.1⟩
      · exact Item.flL_ok p.inNote f hs.2.2.2.2.1 g hg
    · split
      · exact Row.flL_ok p.inTable r hs.2.2.2.2.2
      · simp
theorem Item.flL_ok (p : Place) : ∀ l : List Item, Item.sizedL l → ∀ f ∈ Item.flL p l, f.ok
  | [], _ => by simp [Item.flL]
  | x :: l, hs => by
    rw [Item.sizedL] at hs
    intro g hg
    rw [Item.flL] at hg
    rcases List.mem_append.1 hg with hg | hg
    · exact Item.fl_ok p x hs.1 g hg
    · exact Item.flL_ok p l hs.2 g hg
theorem Row.fl_ok (p : Place) : ∀ x : Row, x.sized → ∀ f ∈ Row.fl p x, f.ok
  | .mk hd c, hs => by rw [Row.sized] at hs; rw [Row.fl]; exact Cell.flL_ok p c hs.2.2
theorem Row.flL_ok (p : Place) : ∀ l : List Row, Row.sizedL l → ∀ f ∈ Row.flL p l, f.ok
  | [], _ => by simp [Row.flL]
  | x :: l, hs => by
    rw [Row.sizedL] at hs
    intro g hg
    rw [Row.flL] at hg
    rcases List.mem_append.1 hg with hg | hg
    · exact Row.fl_ok p x hs.1 g hg
    · exact Row.flL_ok p l hs.2 g hg
theorem Cell.fl_ok (p : Place) : ∀ x : Cell, x.sized → ∀ f ∈ Cell.fl p x, f.ok
  | .mk i hd f, hs => by
    rw [Cell.sized] at hs
    rw [Cell.fl]
    intro g hg
    rcases List.mem_cons.1 hg with rfl | hg
    · exact ⟨hs.2.1, hs.2.2⟩
    · exact Item.flL_ok p f hs.2.2 g hg
theorem Cell.flL_ok (p : Place) : ∀ l : List Cell, Cell.sizedL l → ∀ f ∈ Cell.flL p l, f.ok
  | [], _ => by simp [Cell.flL]
  | x :: l, hs => by
    rw [Cell.sizedL] at hs
    intro g hg
    rw [Cell.flL] at hg
    rcases List.mem_append.1 hg with hg | hg
    · exact Cell.fl_ok p x hs.1 g hg
    · exact Cell.flL_ok p l hs.2 g hg
end
theorem flowsOf_ok {id : Int} {l : List Item} {p : Place} (hl : l.length ≤ 1048576) (hs : Item.sizedL l) : ∀ f ∈ flowsOf id l p, f.ok := by
  intro g hg
  rcases List.mem_cons.1 hg with rfl | hg
  · exact ⟨hl, hs⟩
  · exact Item.flL_ok p l hs g hg
section
variable {E : Env} {yl : Nat} {xs : List Fl} {J : Nat → (Nat → Prop) → Hp → Nat → Prop} {Jx : (Nat → Prop) → Hp → Nat → Prop}
theorem c247 (Y : YJ E yl Fl.enc xs J Jx) (l : List Item) (hl : l.length ≤ 1048576) (hs : Item.sizedL l) (id : Int) (p : Place) (k : Nat) (D : Nat → Prop) (h : Hp) (m : Nat) (hJ : J k D h m) (hseg : Seg xs k (flowsOf id l p)) :
    SCallE E Tryz.prog 206 [.fn (.yield yl) [] [], .iptr [intE id], .iptr [itemsE l], .iptr [.bool p.body, .bool p.note, intE p.tables]] h m (fun _ h' m' => ∃ v, WalkQ (J (k + (flowsOf id l p).length)) Jx D h m v h' m') := by
  refine go Tryz.func206 rfl (by kernel_rfl) (by kernel_rfl) (by simp [go_sem]) fun ho => ?_
  simp [go_sem]
  refine SCallE.mono (c248 Y (SizeOf.sizeOf l + 1) l (Nat.lt_succ_self _) hl hs id p k D h m hJ hseg) ?_
  intro v h' m' W
  simp [go_sem]
  exact .inl ⟨v, W⟩
end
theorem ptr_fz {h' h : Hp} {k o : Nat} {cs : List SV} (hn : h o = none) (hh : h' o = some (.cells cs)) : Fz h' h (k + 1) (.ptr o 0) (.iptr cs) := by
  refine .inr ⟨hn, cs, hh, by simp, ?_⟩
  have : ∀ l : List SV, All2 (Fz h' h k) l l := by
    intro l; induction l with
    | nil => trivial
    | cons a l ih => exact ⟨Fz.same, ih⟩
  simpa using this cs
theorem c173 (id : Int) (l : List Item) (p : Place) : PC 159 [intE id, itemsE l, p.enc] (.fn (.func 206) [] [.iptr [intE id], .iptr [itemsE l], .iptr [.bool p.body, .bool p.note, intE p.tables]]) := by
  intro h n
  refine go Tryz.func159 rfl (by kernel_rfl) (by kernel_rfl) (by simp [go_sem]) fun ho => ?_
  simp [go_sem, Place.enc]
  refine retFz 3 ho (by repeat (first | exact look_same | refine hset_old ho (by omega) ?_)) ?_ (by simp [closed, closedL, Item.E.closedL])
  have h0 := ho.none (Nat.le_refl n)
  have h1 := ho.none (Nat.le_succ n)
  have h2 := ho.none (show n ≤ n + 1 + 1 by omega)
  exact .inr ⟨rfl, trivial, ptr_fz h0 (by simp [hset, Nat.add_assoc]), ptr_fz h1 (by simp [hset, Nat.add_assoc]), ptr_fz h2 (by simp [hset, Nat.add_assoc]), trivial⟩
def docPlace : Place := ⟨true, false, 0⟩
theorem c109 (d : Document) : PC 98 [d.enc] (.fn (.func 206) [] [.iptr [intE 0], .iptr [itemsE d.flow], .iptr [.bool true, .bool false, intE 0]]) := by
  intro h n
  refine go Tryz.func98 rfl (by kernel_rfl) (by kernel_rfl) (by simp [go_sem]) fun ho => ?_
  simp [go_sem, Document.enc, Head.flat, Settings.flat, hset_at]
  refine (c173 0 d.flow docPlace).use ?_
  simp [go_sem]
  exact retIs ho (by repeat (first | exact look_same | refine hset_old ho (by omega) ?_)) rfl (by simp [closed, closedL, Item.E.closedL])
def docFlows (d : Document) : List Fl := flowsOf 0 d.flow docPlace
def docFlow (d : Document) (id : Int) : Option Fl := (docFlows d).find? fun f => decide (f.id = id)
theorem c34 (d : Document) (id : Int) (hl : d.flow.length ≤ 1048576) (hs : Item.sizedL d.flow) : PC 35 [d.enc, intE id] (.tup [itemsE (((docFlow d id).map Fl.items).getD []), .bool (docFlow d id).isSome]) := by
  intro h n
  refine goM Tryz.func35 rfl (by kernel_rfl) (by kernel_rfl) (by simp [go_sem]) fun ho B => ?_
  simp [go_sem, Document.enc, Head.flat, Settings.flat, hset_at, hset_ne, Nat.add_assoc]
  refine PC.use (by simpa [Document.enc, Head.flat, Settings.flat] using c109 d) ?_
  simp [go_sem]
  generalize hH : hset (hset (hset (hset h n _) (n + 1) _) (n + 2) _) (n + 3) _ = H
  refine SWE_rangeFunc rfl rfl rfl fun E1 l R hY => ?_
  have h1 : H (n + 1) = some (.cells [intE id]) := by rw [← hH]; simp [hset]
  have h2 : H (n + 2) = some (.cells [.imm 0 [] true]) := by rw [← hH]; simp [hset]
  have h3 : H (n + 3) = some (.cells [.bool false]) := by rw [← hH]; simp [hset]
  have hold : ∀ o, o < n → H o = h o := fun o g => by rw [← hH]; rw [hset_ne _ _ (by omega), hset_ne _ _ (by omega), hset_ne _ _ (by omega), hset_ne _ _ (by omega)]
  clear hH
  let D0 : Nat → Prop := fun o => n ≤ o ∧ o ≤ n + 4
  let J : Nat → (Nat → Prop) → Hp → Nat → Prop := fun k D hh m => D = D0 ∧ n + 4 < m ∧ hh (n + 1) = some (.cells [intE id]) ∧ hh (n + 2) = some (.cells [.imm 0 [] true]) ∧ hh (n + 3) = some (.cells [.bool false]) ∧ hh (n + 4) = some (.loop (R .ready none)) ∧ ∀ x ∈ (docFlows d).take k, x.id ≠ id
  let Jx : (Nat → Prop) → Hp → Nat → Prop := fun D hh m => D = D0 ∧ n + 4 < m ∧ ∃ x, docFlow d id = some x ∧ hh (n + 2) = some (.cells [itemsE x.items]) ∧ hh (n + 3) = some (.cells [.bool true]) ∧ hh (n + 4) = some (.loop (R .done (some .ret)))
  have Y : YJ E1 l Fl.enc (docFlows d) J Jx := by
    refine ⟨fun k x D hh m hx hJ => ?_, ?_, ?_⟩
    · obtain ⟨rfl, g0, g1, g2, g3, g4, g5⟩ := hJ
      refine hY _ _ _ _ g4 rfl (roundW_of ?_)
      have hxm : x ∈ docFlows d := List.mem_of_getElem? hx
      have hxo : x.ok := flowsOf_ok hl hs x hxm
      have e1 : n + 1 ≠ m := by omega
      have e2 : n + 2 ≠ m := by omega
      have e3 : n + 3 ≠ m := by omega
      have e4 : n + 4 ≠ m := by omega
      have e4' := e4.symm
      simp [go_sem, zipSA, Fl.enc, hset_at, hset_ne, g4, e4, g1, e1]
      by_cases hid : x.id = id
      · have hfind : docFlow d id = some x := by
          obtain ⟨hlt, hxx⟩ := List.getElem?_eq_some_iff.1 hx
          have hsplit : docFlows d = (docFlows d).take k ++ x :: (docFlows d).drop (k + 1) := by rw [← hxx, List.getElem_cons_drop, List.take_append_drop]
          rw [docFlow, hsplit, List.find?_append]
          have : ((docFlows d).take k).find? (fun f => decide (f.id = id)) = none := List.find?_eq_none.2 fun y hy => by simpa using g5 y hy
          rw [this]; simp [hid]
        simp [go_sem, hid, hset_at, hset_ne, e4']
        refine (c110 _ hxo.1 hxo.2).use ?_
        simp [go_sem, hset_at, hset_ne, g2, e2, g3, e3, roundQ]
        refine ⟨by omega, D0, fun o g => .inl g, fun o g1 g2 => ?_, .inr ⟨rfl, rfl, by omega, x, hfind, ?_⟩⟩
        · have : ¬ (n ≤ o ∧ o ≤ n + 4) := g1
          simp only [hset]
          rw [if_neg (by omega), if_neg (by omega), if_neg (by omega), if_neg (by omega), if_neg (by omega), if_neg (by omega)]
        · simp [hset]
      · simp [go_sem, hid, roundQ, hset_at]
        refine ⟨by omega, D0, fun o g => .inl g, fun o g1 g2 => ?_, .inl ⟨rfl, rfl, by omega, ?_, ?_, ?_, ?_, fun y hy => ?_⟩⟩
        · have : ¬ (n ≤ o ∧ o ≤ n + 4) := g1
          simp only [hset]
          rw [if_neg (by omega), if_neg (by omega), if_neg (by omega), if_neg (by omega)]
        · simp [hset, e1, g1]
        · simp [hset, e2, g2]
        · simp [hset, e3, g3]
        · simp [hset]
        · obtain ⟨hlt, hxx⟩ := List.getElem?_eq_some_iff.1 hx
          rw [List.take_succ_eq_append_getElem hlt, hxx] at hy
          rcases List.mem_append.1 hy with hy | hy
          · exact g5 y hy
          · rw [List.mem_singleton.1 hy]; exact hid
    · rintro k D hh m h' m' ⟨rfl, g0, g1, g2, g3, g4, g5⟩ hm hD
      exact ⟨rfl, by omega, by rw [hD _ ⟨by omega, by omega⟩]; exact g1, by rw [hD _ ⟨by omega, by omega⟩]; exact g2, by rw [hD _ ⟨by omega, by omega⟩]; exact g3, by rw [hD _ ⟨by omega, by omega⟩]; exact g4, g5⟩
    · rintro k D hh m ⟨rfl, g0, _⟩ o ⟨a, b⟩; omega
  refine SCallE.mono (c247 Y d.flow hl hs 0 docPlace 0 D0 _ _ ⟨rfl, by omega, ?_, ?_, ?_, ?_, by simp⟩ ⟨[], by simp [docFlows]⟩) ?_
  · rw [hset_ne _ _ (by omega)]; exact h1
  · rw [hset_ne _ _ (by omega)]; exact h2
  · rw [hset_ne _ _ (by omega)]; exact h3
  · exact hset_at _ _ _
  rintro _ h' m' ⟨v, hm, D', hDD, hh, hv⟩
  rcases hv with ⟨rfl, rfl, g0, g1, g2, g3, g4, g5⟩ | ⟨rfl, rfl, g0, x, hx, g2, g3, g4⟩
  · refine ⟨_, _, g4, by simp, ?_⟩
    simp [go_sem, hset_at, hset_ne, g2, g3]
    have hnone : docFlow d id = none := List.find?_eq_none.2 fun y hy => by simpa using g5 y (by simpa [docFlows, docPlace] using hy)
    refine retFz 2 ho (fun o y e => ?_) (by rw [hnone]; exact .inr ⟨imm_fz (by simp), Fz.same, trivial⟩) (by rw [hnone]; rfl)
    have g := (ho o y e).1
    rw [hset_ne _ _ (by omega), hset_ne _ _ (by omega), hset_ne _ _ (by omega), hh o (fun g' => by have : n ≤ o ∧ o ≤ n + 4 := g'; omega) (by omega), hset_ne _ _ (by omega), hold o g, e]
  · refine ⟨_, _, g4, by simp, ?_⟩
    simp [go_sem, hset_ne, g2, g3]
    refine retIs ho (fun o y e => ?_) (by rw [hx]; rfl) (by rw [hx]; simp [closed, closedL, Item.E.closedL])
    have g := (ho o y e).1
    rw [hset_ne _ _ (by omega), hh o (fun g' => by have : n ≤ o ∧ o ≤ n + 4 := g'; omega) (by omega), hset_ne _ _ (by omega), hold o g, e]
section
variable {E : Env} {yl : Nat} {J : Nat → (Nat → Prop) → Hp → Nat → Prop} {Jx : (Nat → Prop) → Hp → Nat → Prop}
end
def Head.revs (h : Head) : List Int := (if h.ins = 0 then [] else [h.ins]) ++ h.dels.map (·.rev) ++ h.layers.map (·.rev)
theorem app_int {H : Hp} {n m k p : Nat} {es : List Int} {x : Int} {o : Option Nat} (hA : AccI n m 1 o (es.map intE)) (hl : es.length ≤ 1073741823) (h1 : H k = some (.cells [intE x])) (h2 : ∀ j, o = some j → H j = some (.cells (es.map intE))) :
    builtinS Tryz.prog H p .append [91, 91] [AccV 1 o (es.map intE), .sl k 0 1 1 true] = some { val := .sl p 0 1 (es.length + 1) false, upd := o.map fun j => (j, none), new := some (.cells (es.map intE ++ [intE x])) } := by
  have := app1g (P := Tryz.prog) (H := H) (t := 91) (t2 := 91) (el := 3) (by simp [go_sem]) (by simp [go_sem]) (by simp [go_sem]) (by simp) (by simp [go_sem]) (by simp [go_sem]) (by simp [go_sem]) (by simp; omega) hA (e := intE x) rfl h1 (fun j e => by rw [h2 j e, flat_int]) p
  rw [this, flat_int]; simp [SV.cells]
def insU (out : List Int) (x : Int) : List Int := if x ∈ out then out else out ++ [x]
def addU (out l : List Int) : List Int := l.foldl insU out
theorem addU_append (out a b : List Int) : addU out (a ++ b) = addU (addU out a) b := List.foldl_append
def Head.all (h : Head) : List Int := h.ins :: (h.dels.map (·.rev) ++ h.layers.map (·.rev))
mutual
def Item.us : Item → List Int
  | .mk k _ _ _ h f r => h.all ++ (if k = 6 then Item.usL f else if k = 7 then Row.usL r else [])
def Item.usL : List Item → List Int
  | [] => []
  | x :: l => x.us ++ Item.usL l
def Row.us : Row → List Int
  | .mk h c => h.all ++ Cell.usL c
def Row.usL : List Row → List Int
  | [] => []
  | x :: l => x.us ++ Row.usL l
def Cell.us : Cell → List Int
  | .mk _ h f => h.all ++ Item.usL f
def Cell.usL : List Cell → List Int
  | [] => []
  | x :: l => x.us ++ Cell.usL l
end
theorem kvT_closed (n : Nat) (out : List Int) : closedO n (.map (kvT out)) = true := by simp [closedO, kvT, closed]
section
variable {P : Program} {E : Env} {evs : Operand → SV} {o : Oper} {h : Hp} {n : Nat} {K : SV → Hp → Nat → Prop}
theorem filter_erase {α : Type} (f : α → Nat) : ∀ (L : List α), (L.map f).Nodup → ∀ (i : Nat) (hi : i < L.length), L.filter (fun x => f x != f L[i]) = L.eraseIdx i
  | a :: L, hn, 0, hi => by
    rw [List.map_cons, List.nodup_cons] at hn
    rw [List.filter_cons]
    simp only [List.getElem_cons_zero, bne_self_eq_false, Bool.false_eq_true, if_false, List.eraseIdx_cons_zero]
    exact List.filter_eq_self.2 fun x hx => by
      simp only [bne_iff_ne, ne_eq]
      intro e
      exact hn.1 (e ▸ List.mem_map.2 ⟨x, hx, rfl⟩)
  | a :: L, hn, i + 1, hi => by
    rw [List.map_cons, List.nodup_cons] at hn
    rw [List.filter_cons]
    simp only [List.getElem_cons_succ, List.eraseIdx_cons_succ]
    have ha : (f a != f (L[i]'(by simpa using hi))) = true := by
      simp only [bne_iff_ne, ne_eq]
      intro e
      exact hn.1 (e ▸ List.mem_map.2 ⟨_, List.getElem_mem _, rfl⟩)
    rw [if_pos ha, filter_erase f L hn.2 i (by simpa using hi)]
theorem sem_range {t : TypeId} {x : Operand} {m : Nat} {es : List (SV × SV)} (ho : o.op = .range t x) (ht : (tmap P t).isSome = true) (hx : evs x = .map m) (hm : h m = some (.map es))
    (hk : K (.ptr n 0) (hset (hset h m none) n (some (.iter es none))) (n + 1)) : SemOp E P evs o h n K := by
  refine ⟨by rw [ho]; simp, fun c ev _ _ R F hv => ?_⟩
  have hvx := hv x
  rw [hx, V] at hvx
  obtain ⟨bm, hρ, hev⟩ := hvx
  obtain ⟨b', ents, clock, g1, g2, g3, g4⟩ := R.obj _ _ hm
  rw [hρ] at g1; cases g1
  obtain ⟨⟨kt, e⟩, ht⟩ := Option.isSome_iff_exists.1 ht
  have hu := tmap_some ht
  have hgo : (getObj bm).run P c.w = .ok (.map ents clock) c.w := by simp [getObj, Sem.run, g2]
  have hrun : (execOp ev o).run P c.w = .ok (.value (.pointer (some ⟨c.w.heap.size, 0, none⟩))) (c.w.alloc (.mapIter (some bm) clock #[] clock)) := by
    simp [execOp, ho, Instr.range, run_underlying' hu, hev, hgo]
  have R1 := R.kill m hm
  have hn1 : (c.kill m).ρ n = none := F n (Nat.le_refl _)
  have X1 := c.kill_ext m
  have hlt : bm < c.w.heap.size := (Array.getElem?_eq_some_iff.1 g2).1
  have X2 := (c.kill m).alloc_ext n (.mapIter (some bm) clock #[] clock) hn1
  have R2 := R1.alloc hn1 (x := .iter es none) (b := .mapIter (some bm) clock #[] clock) ⟨c.w.heap.size, bm, ents, clock, #[], by simp [Cx.alloc, Cx.kill], by simp [Cx.alloc, Cx.kill, heap_alloc],
    by simp [Cx.alloc, Cx.kill, heap_alloc, Array.getElem?_push, Nat.ne_of_lt hlt, g2], by
      simp only [Cx.alloc, Cx.kill]
      rintro (h1 | h1)
      · exact h1.2 0 hρ
      · omega, g4, by
      have : (ents.toList.filter fun e => !(#[] : Array Nat).contains e.born) = ents.toList := List.filter_eq_self.2 fun _ _ => by simp
      rw [this]
      exact All2.mono (fun _ _ g => ⟨V.mono (X1.trans X2) g.1, V.mono (X1.trans X2) g.2⟩) g3, by simp⟩
  refine ⟨_, .ptr n 0, _, n + 1, (c.kill m).alloc n (.mapIter (some bm) clock #[] clock), by rw [hrun]; rfl, ?_, R2, fun j hj => ?_, ⟨X1.trans X2, Nat.le_succ n, fun j hj => ?_⟩, hk⟩
  · rw [V]; exact ⟨c.w.heap.size, 0, by simp [Cx.alloc, Cx.kill], rfl⟩
  · simp only [Cx.alloc, Cx.kill]
    rw [if_neg (by omega)]; exact F j (by omega)
  · simp only [Cx.alloc, Cx.kill]
    rw [if_neg (by omega)]
theorem sem_entry {x : Operand} {q : Nat} {left : List (SV × SV)} {p : SV × SV} (ho : o.op = .entry x) (hx : evs x = .ptr q 0) (hq : h q = some (.iter left (some p)))
    (hk : K (.tup [p.1, p.2]) h n) : SemOp E P evs o h n K := by
  refine ⟨by rw [ho]; simp, fun c ev _ _ R F hv => ?_⟩
  have hvx := hv x
  rw [hx, V] at hvx
  obtain ⟨b, st, hρ, hev⟩ := hvx
  obtain ⟨b', bm, ents, clock, seen, g1, g2, g3, g4, g5, g6, g7⟩ := R.obj _ _ hq
  rw [hρ] at g1; cases g1
  obtain ⟨e, k1, k2, k3, k4⟩ := g7 p rfl
  have hgo : (getObj b).run P c.w = .ok (.mapIter (some bm) clock seen clock) c.w := by simp [getObj, Sem.run, g2]
  have hgm : (getObj bm).run P c.w = .ok (.map ents clock) c.w := by simp [getObj, Sem.run, g3]
  have hfind : ents.find? (fun y => y.born == e.born) = some e := by
    rw [← Array.find?_toList]
    have : ∀ l : List MapEntry, (l.map (·.born)).Nodup → e ∈ l → l.find? (fun y => y.born == e.born) = some e := by
      intro l
      induction l with
      | nil => intro _ h; cases h
      | cons a l ih =>
        intro hn he
        rw [List.map_cons, List.nodup_cons] at hn
        rw [List.find?_cons]
        rcases List.mem_cons.1 he with rfl | he
        · simp
        · have : (a.born == e.born) = false := by
            simp only [beq_eq_false_iff_ne, ne_eq]
            intro h2
            exact hn.1 (h2 ▸ List.mem_map.2 ⟨e, he, rfl⟩)
          rw [this]; exact ih hn.2 he
    exact this _ g5.2 k1
  refine ⟨.tuple #[e.key, e.val], .tup [p.1, p.2], h, n, c, ?_, by simp only [V, VL]; exact ⟨_, rfl, _, _, rfl, k3, _, _, rfl, k4, rfl⟩, R, F, Adv.refl n c, hk⟩
  simp [execOp, ho, Instr.entry, hev, hgo, k2, hgm, hfind]
theorem sem_next {x : Operand} {q : Nat} {left : List (SV × SV)} {last : Option (SV × SV)} (ho : o.op = .next x false) (hx : evs x = .ptr q 0) (hq : h q = some (.iter left last))
    (hk : ∀ (i : Nat) (hi : i < left.length), K (.tup [.bool true, left[i].1, left[i].2]) (hset h q (some (.iter (left.eraseIdx i) (some left[i])))) n) (h0 : left = [] → K (.tup [.bool false]) h n) : SemOp E P evs o h n K := by
  refine ⟨by rw [ho]; simp, fun c ev _ _ R F hv => ?_⟩
  have hvx := hv x
  rw [hx, V] at hvx
  obtain ⟨b, st, hρ, hev⟩ := hvx
  obtain ⟨b', bm, ents, clock, seen, g1, g2, g3, g4, g5, g6, g7⟩ := R.obj _ _ hq
  rw [hρ] at g1; cases g1
  have hgo : (getObj b).run P c.w = .ok (.mapIter (some bm) clock seen clock) c.w := by simp [getObj, Sem.run, g2]
  have hgm : (getObj bm).run P c.w = .ok (.map ents clock) c.w := by simp [getObj, Sem.run, g3]
  have hgone : (!seen.isEmpty && !ents.isEmpty && ents.all fun y => decide (y.born ≥ clock)) = false := by
    cases he : ents.isEmpty with
    | true => simp
    | false =>
      have hne : 0 < ents.size := by rcases Nat.eq_zero_or_pos ents.size with h | h; simp [Array.isEmpty, h] at he; exact h
      have : (ents.all fun y => decide (y.born ≥ clock)) = false := by
        rw [Array.all_eq_false]
        refine ⟨0, hne, ?_⟩
        have := g5.1 ents[0] (by simp)
        simp; exact this
      simp [this]
  generalize hL : ents.filter (fun y => !seen.contains y.born) = L
  have hLl : L.toList = ents.toList.filter fun e => !seen.contains e.born := by rw [← hL]; simp
  have hold : L.filter (fun y => decide (y.born < clock)) = L := by
    apply Array.ext'
    rw [Array.toList_filter]
    exact List.filter_eq_self.2 fun y hy => by
      rw [hLl] at hy
      simpa using g5.1 y (List.mem_filter.1 hy).1
  have hnew : L.filter (fun y => decide (y.born ≥ clock)) = #[] := by
    apply Array.ext'
    rw [Array.toList_filter]
    exact List.filter_eq_nil_iff.2 fun y hy => by
      rw [hLl] at hy
      simpa using g5.1 y (List.mem_filter.1 hy).1
  rw [← hLl] at g6
  have hlen : left.length = L.size := by have := g6.length; simpa using this
  by_cases hz : L.size = 0
  · have hl0 : left = [] := List.eq_nil_of_length_eq_zero (by omega)
    have hL0 : L = #[] := Array.eq_empty_of_size_eq_zero hz
    refine ⟨.tuple #[.bool false], .tup [.bool false], h, n, c, ?_, by simp [V, VL], R, F, Adv.refl n c, h0 hl0⟩
    subst hL0
    simp only [execOp, ho, Instr.next, hev, Nat.add_zero, Sem.run_bind, Sem.run_pure, hgo, Result.andThen_ok, hgm, hgone, Bool.false_eq_true, if_false, hL, hold, hnew]
    simp [Question.forced]
  · have hch : ∃ i w1, (choose (.mapNext L.size)).run P c.w = .ok i w1 ∧ i < L.size ∧ (w1 = c.w ∨ w1 = c.w.drew) := by
      rw [run_choose_drew]
      by_cases hf : (Question.mapNext L.size).forced = true
      · rw [if_pos hf]; exact ⟨0, _, rfl, by omega, .inl rfl⟩
      · rw [if_neg hf]; exact ⟨_, _, rfl, Nat.mod_lt _ (by omega), .inr rfl⟩
    obtain ⟨i, w1, hch, hi, hw1⟩ := hch
    obtain ⟨c1, hc1, X1, R1, F1, hρ1⟩ : ∃ c1 : Cx, c1.w = w1 ∧ Ext c c1 ∧ Rel h c1 ∧ Fr n c1 ∧ c1.ρ = c.ρ := by
      rcases hw1 with rfl | rfl
      · exact ⟨c, rfl, Ext.refl c, R, F, rfl⟩
      · exact ⟨c.drew, rfl, c.drew_ext, R.drew, fun j hj => F j hj, rfl⟩
    subst hc1
    have hh1 : c1.w.heap = c.w.heap := by rcases hw1 with e | e <;> rw [e] <;> rfl
    have hil : i < left.length := by omega
    obtain ⟨e, he, hr1, hr2⟩ := g6.get (i := i) (a := left[i]) (by simp [hil])
    have heL : L[i]? = some e := by simpa using he
    have hemem : e ∈ ents.toList := by
      have := List.mem_of_getElem? he
      rw [hLl] at this; exact (List.mem_filter.1 this).1
    have hisE : L.isEmpty = false := by cases hb : L.isEmpty with | false => rfl | true => (simp at hb; subst hb; simp at hz)
    have hblt : b < c.w.heap.size := (Array.getElem?_eq_some_iff.1 g2).1
    have hset' : ∀ ob : Obj, (setObj b ob).run P c1.w = .ok () { c1.w with heap := c1.w.heap.setIfInBounds b ob } := fun ob => by simp [setObj, Sem.run, hh1, g2]
    have hrun : (execOp ev o).run P c.w = .ok (.value (.tuple #[.bool true, e.key, e.val])) { c1.w with heap := c1.w.heap.setIfInBounds b (.mapIter (some bm) clock (seen.push e.born) clock) } := by
      have hcand : ((if L.isEmpty then #[none] else #[]) ++ (L ++ #[]).map some : Array (Option MapEntry)) = L.map some := by simp [hisE]
      simp only [execOp, ho, Instr.next, hev, Nat.add_zero, Sem.run_bind, Sem.run_pure, hgo, Result.andThen_ok, hgm, hgone, Bool.false_eq_true, if_false, hL, hold, hnew, hcand, Array.size_map, hch]
      simp [heL, hset']
    have hbm : bm ≠ b := by rintro rfl; rw [g2] at g3; cases g3
    obtain ⟨R2, X2⟩ := R1.write (w' := { c1.w with heap := c1.w.heap.setIfInBounds b (.mapIter (some bm) clock (seen.push e.born) clock) }) (y := .iter (left.eraseIdx i) (some left[i])) hq (by rw [hρ1]; exact hρ) (by simp)
      (fun b' hb' => by simp [Array.getElem?_setIfInBounds_ne (Ne.symm hb')]) (by simp [rm, hh1, g2]) rfl rfl (fun X => by
        have XX := X1.trans X
        refine ⟨b, bm, ents, clock, seen.push e.born, by show c1.ρ q = _; rw [hρ1]; exact hρ, by simp [hh1, hblt], ?_, ?_, g5, ?_, ?_⟩
        · show (c1.w.heap.setIfInBounds b _)[bm]? = _
          rw [Array.getElem?_setIfInBounds_ne hbm.symm, hh1]; exact g3
        · exact fun hb => (XX.keep bm (Array.getElem?_eq_some_iff.1 g3).1 g4).1 hb
        · have hnd : (L.toList.map (·.born)).Nodup := by rw [hLl]; exact g5.2.sublist (List.filter_sublist.map _)
          have hee : L.toList[i]'(by simpa using hi) = e := by
            have := (List.getElem?_eq_some_iff.1 he).2; exact this
          have h1 := filter_erase (fun x : MapEntry => x.born) L.toList hnd i (by simpa using hi)
          rw [hee] at h1
          have h2 : (ents.toList.filter fun x => !(seen.push e.born).contains x.born) = L.toList.filter fun x => x.born != e.born := by
            rw [hLl, List.filter_filter]
            congr 1; funext x
            by_cases hx : x.born = e.born <;> simp [hx]
          rw [h2, h1]
          exact All2.mono (fun _ _ g => ⟨V.mono XX g.1, V.mono XX g.2⟩) (All2.eraseIdx i g6)
        · intro p hp
          cases hp
          exact ⟨e, hemem, by simp, V.mono XX hr1, V.mono XX hr2⟩)
    exact ⟨_, .tup [.bool true, left[i].1, left[i].2], _, n, _, hrun, by
      have XX := X1.trans X2
      simp only [V, VL]
      exact ⟨_, rfl, _, _, rfl, rfl, _, _, rfl, V.mono XX hr1, _, _, rfl, V.mono XX hr2, rfl⟩, R2, fun j hj => F1 j hj, ⟨X1.trans X2, Nat.le_refl _, fun j _ => by show c1.ρ j = _; rw [hρ1]⟩, hk i hil⟩
end
section
variable {E : Env} {yl : Nat} {J : List Int → (Nat → Prop) → Hp → Nat → Prop}
end
def usedL (d : Document) : List Int := sortI ((addU [] (Item.usL d.flow ++ d.«end».all)).filter fun x => decide (x ≠ 0))
def OwnV (z : Nat) (es : List SV) (v : SV) (o : Option Nat) (n m : Nat) : Prop :=
  (o = none ∧ es = [] ∧ ∃ z' f, v = .imm z' [] f) ∨ ∃ j f, o = some j ∧ n ≤ j ∧ j < m ∧ v = .sl j 0 z es.length f
def OwnH (es : List SV) (o : Option Nat) (h : Hp) : Hp := match o with | none => h | some j => hset h j (some (.cells (es.flatMap SV.cells)))
theorem OwnV.st {z : Nat} {es : List SV} {v : SV} {o : Option Nat} {n m : Nat} (H : OwnV z es v o n m) : v.storable = true ∧ v.cells = [v] := by
  rcases H with ⟨_, _, z', f, rfl⟩ | ⟨j, f, _, _, _, rfl⟩ <;> exact ⟨rfl, rfl⟩
theorem NewL.own {z : Nat} {es : List SV} {h h' : Hp} {n n' : Nat} {v : SV} (H : NewL z es h n v h' n') : ∃ o, OwnV z es v o n n' ∧ (∀ j y, h j = some y → h' j = some y) ∧ ∀ j, o = some j → h' j = some (.cells (es.flatMap SV.cells)) := by
  obtain ⟨h1, h2, ⟨rfl, z', f, rfl⟩ | ⟨o, f, h3, h4, rfl, h5⟩⟩ := H
  · exact ⟨none, .inl ⟨rfl, rfl, z', f, rfl⟩, h2, by simp⟩
  · exact ⟨some o, .inr ⟨o, f, rfl, h3, h4, rfl⟩, h2, by rintro j e; cases e; exact h5⟩
theorem OwnV.mono {z : Nat} {es : List SV} {v : SV} {o : Option Nat} {n n' m m' : Nat} (H : OwnV z es v o n m) (hn : n' ≤ n) (hm : m ≤ m') : OwnV z es v o n' m' := by
  rcases H with ⟨h1, h2, z', f, h3⟩ | ⟨j, f, h1, h2, h3, h4⟩
  · exact .inl ⟨h1, h2, z', f, h3⟩
  · exact .inr ⟨j, f, h1, by omega, by omega, h4⟩
theorem OwnV.lt {z : Nat} {es : List SV} {v : SV} {o : Option Nat} {n m : Nat} (H : OwnV z es v o n m) : ∀ j, o = some j → n ≤ j ∧ j < m := by
  rcases H with ⟨rfl, _⟩ | ⟨j, f, rfl, h2, h3, _⟩
  · simp
  · rintro i e; cases e; exact ⟨h2, h3⟩
theorem cell_at {z k i : Nat} {es : List SV} {e c : SV} (hs : ∀ e ∈ es, e.storable = true ∧ e.cells.length = z) (h : es[i]? = some e) (hk : e.cells[k]? = some c) :
    i * z + k + 1 ≤ (es.flatMap SV.cells).length ∧ ((es.flatMap SV.cells).drop (i * z + k)).take 1 = [c] := by
  obtain ⟨g1, g2⟩ := flat_get hs h
  have he := (hs e (List.mem_of_getElem? h)).2
  have hlt := (List.getElem?_eq_some_iff.1 hk).1
  refine ⟨by omega, ?_⟩
  have h1 : (((es.flatMap SV.cells).drop (i * z)).take z).drop k = e.cells.drop k := by rw [g2]
  rw [List.drop_take, List.drop_drop] at h1
  have h2 : (((es.flatMap SV.cells).drop (i * z + k)).take (z - k)).take 1 = (e.cells.drop k).take 1 := by rw [h1]
  rw [List.take_take, Nat.min_eq_left (by omega)] at h2
  rw [h2, List.drop_eq_getElem_cons hlt]
  simp only [List.take_succ_cons, List.take_zero]
  rw [(List.getElem?_eq_some_iff.1 hk).2]
theorem splice_same {cs : List SV} {off : Nat} {c : SV} (h1 : off + 1 ≤ cs.length) (h2 : (cs.drop off).take 1 = [c]) : cs.take off ++ c :: cs.drop (off + 1) = cs := by
  have : cs.drop off = c :: cs.drop (off + 1) := by
    rw [List.drop_eq_getElem_cons (by omega)] at h2 ⊢
    simp only [List.take_succ_cons, List.take_zero, List.cons.injEq, and_true] at h2; rw [h2]
  rw [← this, List.take_append_drop]
def trC : Tr := .pure 0 <| .pure 1 <| .pure 3 <| .pure 4 <| .pure 6 <| .pure 7 <| .pure 9 <| .pure 10 <|
  .two 2 13
    (.two 5 13 (.two 8 13 (.two 11 13 (.two 12 13 (.one 13 (.one 14 .nil)) (.one 12 (.one 14 .nil))) (.one 11 (.one 12 (.one 14 .nil)))) (.one 8 (.one 11 (.one 12 (.one 14 .nil))))) (.one 5 (.one 8 (.one 11 (.one 12 (.one 14 .nil))))))
    (.one 2 (.one 5 (.one 8 (.one 11 (.one 12 (.one 14 .nil))))))
set_option maxHeartbeats 2000000 in
theorem c144 (s : Settings) (h1 : s.styles.length ≤ 1048576) (h2 : s.lists.length ≤ 1048576) (h3 : s.comments.length ≤ 1048576) (h4 : s.vars.length ≤ 1048576) (h5 : ∀ x ∈ s.styles, x.props.length ≤ 1048576) (h6 : ∀ x ∈ s.lists, x.levels.length ≤ 1048576) :
    PC 172 [s.enc] s.enc := by
  intro h n
  refine goS Tryz.func172 rfl (by kernel_rfl) (by kernel_rfl) (by simp [go_sem]) fun ho => ?_
  refine SP_mid 2 (α := Unit) (fun _ => [(1, .iptr s.flat), (2, .ptr (n + 1) 0)]) (fun _ => hset h (n + 1) (some (.cells [.imm 0 [] true, .imm 0 [] true, .imm 0 [] true, .imm 0 [] true]))) (fun _ m => m = n + 2) ?_ (fun _ m hm => ?_)
  · simp [go_sem, Settings.enc, Nat.add_assoc, Fz.same]
    refine ⟨ptr_fz (by rw [hset_ne _ _ (by omega)]; exact ho.none (Nat.le_refl n)) (by simp [hset]), fun j y => ?_⟩
    have := ho j y; simp only [hset]; grind
  subst hm
  refine SP_midS 1 (α := SV × Option Nat × SV × Option Nat × Nat) (fun a => [(2, .ptr (n + 1) 0), (3, .ptr a.2.2.2.2 0)])
    (fun a => hset (OwnH (s.styles.map Style.enc) a.2.1 (OwnH (s.lists.map Lst.enc) a.2.2.2.1 (hset h (n + 1) (some (.cells [.imm 0 [] true, .imm 0 [] true, .imm 0 [] true, .imm 0 [] true]))))) a.2.2.2.2 (some (.cells [a.1, a.2.2.1, commentsE s.comments, varsE s.vars])))
    (fun a m => OwnV 6 (s.styles.map Style.enc) a.1 a.2.1 (n + 2) m ∧ OwnV 2 (s.lists.map Lst.enc) a.2.2.1 a.2.2.2.1 (n + 2) m ∧ n + 2 ≤ a.2.2.2.2 ∧ a.2.2.2.2 < m ∧ a.2.1 ≠ some a.2.2.2.2 ∧ a.2.2.2.1 ≠ some a.2.2.2.2 ∧ (∀ j, a.2.1 = some j → a.2.2.2.1 ≠ some j)) (SP_tr trC rfl (by kernel_rfl) (by kernel_rfl) ?_) ?_
  · simp [go_sem, trC, Settings.flat]
    iterate 14 (all_goals (try first
      | (refine LC.use (l199 _ h1) ?_; intro v1 H1 m1 W1; have lt1 := W1.1; obtain ⟨o1, a1, b1, c1⟩ := W1.own; obtain ⟨s1, t1⟩ := a1.st; simp only [SV.storable, SV.cells] at s1 t1; simp [go_sem])
      | (refine LC.use (l200 _ h2) ?_; intro v2 H2 m2 W2; have lt2 := W2.1; obtain ⟨o2, a2, b2, c2⟩ := W2.own; obtain ⟨s2, t2⟩ := a2.st; simp only [SV.storable, SV.cells] at s2 t2; simp [go_sem])
      | (refine (c201 _ h3).use ?_; simp [go_sem])
      | (refine (c202 _ h4).use ?_; simp [go_sem, s1, t1, s2, t2])
      | refine ⟨?_, ?_⟩))
    all_goals
      have L1 := a1.lt
      have L2 := a2.lt
      have ZZ : SObj := .cells [.imm 0 [] true, .imm 0 [] true, .imm 0 [] true, .imm 0 [] true]
      first
        | (have hq := b2 (n + 2) _ (b1 (n + 2) _ (hset_at _ _ _)); simp [go_sem, hq])
        | (have hq := b2 m1 _ (hset_at _ _ _); simp [go_sem, hq])
        | simp [go_sem, hset_at]
      refine ⟨v1, o1, v2, o2, _, ⟨a1.mono (by omega) (by omega), a2.mono (by omega) (by omega), ?_, ?_, fun e => ?_, fun e => ?_, fun j e e' => ?_⟩, Fz.same, fun j y => ?_⟩
      · omega
      · omega
      · have := L1 _ e; omega
      · have := L2 _ e; omega
      · have := L1 _ e; have := L2 _ e'; omega
      · intro hy
        have q1 := b1 j y
        have q2 := b2 j y
        have q3 := c1 j
        have q4 := c2 j
        have r1 := L1 j
        have r2 := L2 j
        have q5 := b2 j (.cells ((s.styles.map Style.enc).flatMap SV.cells))
        have q6 := ho j y
        clear b1 b2 c1 c2 L1 L2 W1 W2 a1 a2
        simp only [hset] at *
        cases o1 <;> cases o2 <;> simp only [OwnH, hset] at hy <;> grind
  rintro ⟨v1, o1, v2, o2, q⟩ m ⟨a1, a2, hq1, hq2, hn1, hn2, hn12⟩
  dsimp only at a1 a2 hq1 hq2 hn1 hn2 hn12 ⊢
  have L1 := a1.lt
  have L2 := a2.lt
  obtain ⟨s1, t1⟩ := a1.st
  obtain ⟨s2, t2⟩ := a2.st
  simp only [SV.storable, SV.cells] at s1 t1 s2 t2
  generalize hB : OwnH (s.styles.map Style.enc) o1 (OwnH (s.lists.map Lst.enc) o2 (hset h (n + 1) (some (.cells [.imm 0 [] true, .imm 0 [] true, .imm 0 [] true, .imm 0 [] true])))) = B
  have B1 : ∀ j, o1 = some j → B j = some (.cells ((s.styles.map Style.enc).flatMap SV.cells)) := fun j e => by subst e; rw [← hB]; simp [OwnH, hset]
  have B2 : ∀ j, o2 = some j → B j = some (.cells ((s.lists.map Lst.enc).flatMap SV.cells)) := fun j e => by
    subst e; rw [← hB]
    cases o1 with
    | none => simp [OwnH, hset]
    | some i => have := hn12 i rfl; simp only [OwnH, hset]; grind
  have B3 : B (n + 1) = some (.cells [.imm 0 [] true, .imm 0 [] true, .imm 0 [] true, .imm 0 [] true]) := by
    rw [← hB]
    cases o1 <;> cases o2 <;> simp only [OwnH, hset] <;> grind
  have B4 : ∀ j y, h j = some y → B j = some y := fun j y e => by
    have := ho j y e
    rw [← hB]
    cases o1 <;> cases o2 <;> simp only [OwnH, hset] <;> grind
  have hqn : ∀ j, o1 = some j → j ≠ q := fun j e e' => hn1 (by rw [e, e'])
  have hqn2 : ∀ j, o2 = some j → j ≠ q := fun j e e' => hn2 (by rw [e, e'])
  clear hB
  refine SP_midS 1 (α := Unit) (fun _ => [(2, .ptr (n + 1) 0), (3, .ptr q 0)]) (fun _ => hset B q (some (.cells [v1, v2, commentsE s.comments, varsE s.vars]))) (fun _ m' => m ≤ m') (SP_of ?_) (fun _ m' hm' => ?_)
  · rcases a1 with ⟨_, he, z', f, rfl⟩ | ⟨j, f, rfl, hj1, hj2, rfl⟩
    · simp [go_sem, hset_at]
      refine goloop 1 (α := Unit) (fun _ => [(2, .ptr (n + 1) 0), (3, .ptr q 0), (21, intE 0), (22, intE 0)]) (fun _ => hset B q (some (.cells [.imm z' [] f, v2, commentsE s.comments, varsE s.vars]))) (fun _ m' => m ≤ m') (fun _ => 0) () (Nat.le_refl _) (by simp [look]) look_same ?_
      intro _ m' hm'
      simp [go_sem]
      exact hm'
    · have hjq := hqn j rfl
      have hBj := B1 j rfl
      simp [go_sem, hset_at]
      refine goloop 1 (α := Nat) (fun i => [(2, .ptr (n + 1) 0), (3, .ptr q 0), (21, intE s.styles.length), (22, intE i)]) (fun _ => hset B q (some (.cells [.sl j 0 6 s.styles.length f, v2, commentsE s.comments, varsE s.vars]))) (fun i m' => i ≤ s.styles.length ∧ m ≤ m') (fun i => s.styles.length - i) 0 ?_ ?_ ?_ ?_
      · exact ⟨Nat.zero_le _, Nat.le_refl _⟩
      · simp [look]
      · simp
      rintro i m' ⟨hi, hm'⟩
      by_cases hlt : i < s.styles.length
      · have w1 : IntKind.i64.wrap ((i : Int) + 1) = ((i + 1 : Nat) : Int) := by rw [wr64] <;> omega
        obtain ⟨x, hx⟩ : ∃ x, s.styles[i] = x := ⟨_, rfl⟩
        have hx' : (s.styles.map Style.enc)[i]? = some x.enc := by simp [hlt, hx]
        obtain ⟨g1, g2⟩ := cell_at (Style.E.size s.styles) hx' (k := 5) (c := propsE x.props) rfl
        have g3 := splice_same g1 g2
        have hxl := h5 x (by rw [← hx]; exact List.getElem_mem hlt)
        have hjm : j < m' := by omega
        have hqm : q < m' := by omega
        have hBj' := hBj
        generalize (s.styles.map Style.enc).flatMap SV.cells = F at hBj' g1 g2 g3
        simp [go_sem, hset_at, hset_ne, hjq, hBj', hlt, g1, g2, hjm, hqm]
        repeat first | refine nd (by simp [indepD, dirE, disjB, keysW, Region.binds] <;> omega) ?_ | refine sd (by kernel_rfl) ?_ | refine And.intro (by omega) ?_
        refine CallD.pure _ _ _ _ _ _ (c185 x.props hxl) ?_
        simp [go_sem, hset_ne, hjq, hBj', hlt, g1, g3, hjm, w1, -Int.natCast_add]
        repeat first | refine nd (by simp [indepD, dirE, disjB, keysW, Region.binds, hjq] <;> omega) ?_ | refine sd (by kernel_rfl) ?_ | refine And.intro (by omega) ?_
        refine ⟨i + 1, by omega, ⟨by omega, hm'⟩, Fz.same, fun o y => ?_⟩
        simp only [hset]; grind
      · have : i = s.styles.length := by omega
        subst this
        simp [go_sem]
        exact hm'
  refine SP_midS 1 (α := Unit) (fun _ => [(2, .ptr (n + 1) 0), (3, .ptr q 0)]) (fun _ => hset B q (some (.cells [v1, v2, commentsE s.comments, varsE s.vars]))) (fun _ m2 => m ≤ m2) (SP_of ?_) (fun _ m2 hm2 => ?_)
  · rcases a2 with ⟨_, he, z', f, rfl⟩ | ⟨j, f, rfl, hj1, hj2, rfl⟩
    · simp [go_sem, hset_at]
      refine goloop 1 (α := Unit) (fun _ => [(2, .ptr (n + 1) 0), (3, .ptr q 0), (40, intE 0), (41, intE 0)]) (fun _ => hset B q (some (.cells [v1, .imm z' [] f, commentsE s.comments, varsE s.vars]))) (fun _ m' => m ≤ m') (fun _ => 0) () hm' (by simp [look]) look_same ?_
      intro _ m' hm'
      simp [go_sem]
      exact hm'
    · have hjq := hqn2 j rfl
      have hBj := B2 j rfl
      simp [go_sem, hset_at]
      refine goloop 1 (α := Nat) (fun i => [(2, .ptr (n + 1) 0), (3, .ptr q 0), (40, intE s.lists.length), (41, intE i)]) (fun _ => hset B q (some (.cells [v1, .sl j 0 2 s.lists.length f, commentsE s.comments, varsE s.vars]))) (fun i m' => i ≤ s.lists.length ∧ m ≤ m') (fun i => s.lists.length - i) 0 ?_ ?_ ?_ ?_
      · exact ⟨Nat.zero_le _, hm'⟩
      · simp [look]
      · simp
      rintro i m' ⟨hi, hm'⟩
      by_cases hlt : i < s.lists.length
      · have w1 : IntKind.i64.wrap ((i : Int) + 1) = ((i + 1 : Nat) : Int) := by rw [wr64] <;> omega
        obtain ⟨x, hx⟩ : ∃ x, s.lists[i] = x := ⟨_, rfl⟩
        have hx' : (s.lists.map Lst.enc)[i]? = some x.enc := by simp [hlt, hx]
        obtain ⟨g1, g2⟩ := cell_at (Lst.E.size s.lists) hx' (k := 1) (c := levelsE x.levels) rfl
        have g3 := splice_same g1 g2
        have hxl := h6 x (by rw [← hx]; exact List.getElem_mem hlt)
        have hjm : j < m' := by omega
        have hqm : q < m' := by omega
        have hBj' := hBj
        generalize (s.lists.map Lst.enc).flatMap SV.cells = F at hBj' g1 g2 g3
        simp [go_sem, hset_at, hset_ne, hjq, hBj', hlt, g1, g2, hjm, hqm]
        repeat first | refine nd (by simp [indepD, dirE, disjB, keysW, Region.binds] <;> omega) ?_ | refine sd (by kernel_rfl) ?_ | refine And.intro (by omega) ?_
        refine CallD.pure _ _ _ _ _ _ (c203 x.levels hxl) ?_
        simp [go_sem, hset_ne, hjq, hBj', hlt, g1, g3, hjm, w1, -Int.natCast_add]
        repeat first | refine nd (by simp [indepD, dirE, disjB, keysW, Region.binds, hjq] <;> omega) ?_ | refine sd (by kernel_rfl) ?_ | refine And.intro (by omega) ?_
        refine ⟨i + 1, by omega, ⟨by omega, hm'⟩, Fz.same, fun o y => ?_⟩
        simp only [hset]; grind
      · have : i = s.lists.length := by omega
        subst this
        simp [go_sem]
        exact hm'
  have enq : n + 1 ≠ q := by omega
  have fz1 : ∀ (z : Nat) (es : List SV) (v : SV) (o : Option Nat) (H : Hp), (∀ e ∈ es, e.storable = true ∧ e.cells.length = z) → OwnV z es v o (n + 2) m → (∀ j, o = some j → H j = some (.cells (es.flatMap SV.cells))) → Fz H h 1 v (.imm z es false) := fun z es v o H hsz ha hH => by
    rcases ha with ⟨_, he, z', f, rfl⟩ | ⟨j, f, rfl, hj1, hj2, rfl⟩
    · rw [he]; exact imm_fz (by simp)
    · exact sl_fz (ho.none (by omega)) (by simp) (hH j rfl) hsz
  refine SP_of ?_
  simp [go_sem, hset_at, hset_ne, enq, B3]
  refine retFz (v := s.enc) 2 ho (fun j y e => ?_) (.inr ⟨fz1 _ _ _ _ _ (Style.E.size _) a1 fun j e => ?_, fz1 _ _ _ _ _ (Lst.E.size _) a2 fun j e => ?_, Fz.same, Fz.same, trivial⟩) ?_
  · have := ho j y e; have := B4 j y e; simp only [hset]; grind
  · have := L1 j e; have := B1 j e; have := hqn j e; simp only [hset]; grind
  · have := L2 j e; have := B2 j e; have := hqn2 j e; simp only [hset]; grind
  · simp [Settings.enc, Settings.flat, closed, closedL, Style.E.closedL, Lst.E.closedL, Comment.E.closedL, Var.E.closedL]
structure Settings.sized (s : Settings) : Prop where
  styles : s.styles.length ≤ 1048576
  lists : s.lists.length ≤ 1048576
  comments : s.comments.length ≤ 1048576
  vars : s.vars.length ≤ 1048576
  props : ∀ x ∈ s.styles, x.props.length ≤ 1048576
  levels : ∀ x ∈ s.lists, x.levels.length ≤ 1048576
structure Document.sized (d : Document) : Prop where
  len : d.flow.length ≤ 1048576
  flow : Item.sizedL d.flow
  «end» : d.«end».sized
  revs : d.revs.length ≤ 1048576
  set : d.settings.sized
theorem c79 (d : Document) (hd : d.sized) : PC 108 [d.enc] d.enc := by
  intro h n
  refine go Tryz.func108 rfl (by kernel_rfl) (by kernel_rfl) (by simp [go_sem]) fun ho => ?_
  have hs := hd.set
  simp [go_sem, Document.enc, Head.flat, Settings.flat, hset_at, hset_ne, Nat.add_assoc]
  repeat first | refine nd (by simp [indepD, dirE, disjB, keysW, Region.binds] <;> omega) ?_ | refine sd (by kernel_rfl) ?_ | refine And.intro (by omega) ?_
  refine CallD.pure _ _ _ _ _ _ (c110 d.flow hd.len hd.flow) ?_
  simp [go_sem, hset_at, hset_ne]
  repeat first | refine nd (by simp [indepD, dirE, disjB, keysW, Region.binds] <;> omega) ?_ | refine sd (by kernel_rfl) ?_ | refine And.intro (by omega) ?_
  refine CallD.pure _ _ _ _ _ _ (by simpa [Head.enc, Head.flat] using c118 d.«end» hd.end) ?_
  simp [go_sem, hset_at, hset_ne]
  repeat first | refine nd (by simp [indepD, dirE, disjB, keysW, Region.binds] <;> omega) ?_ | refine sd (by kernel_rfl) ?_ | refine And.intro (by omega) ?_
  refine CallD.pure _ _ _ _ _ _ (c76 d.revs hd.revs) ?_
  simp [go_sem, hset_at, hset_ne]
  repeat first | refine nd (by simp [indepD, dirE, disjB, keysW, Region.binds] <;> omega) ?_ | refine sd (by kernel_rfl) ?_ | refine And.intro (by omega) ?_
  refine CallD.pure _ _ _ _ _ _ (by simpa [Settings.enc, Settings.flat] using c144 d.settings hs.styles hs.lists hs.comments hs.vars hs.props hs.levels) ?_
  simp [go_sem, hset_at]
  repeat first | refine nd (by simp [indepD, dirE, disjB, keysW, Region.binds] <;> omega) ?_ | refine sd (by kernel_rfl) ?_ | refine And.intro (by omega) ?_
  exact retIs ho (fun j y => by have := ho j y; simp only [hset]; grind) rfl (by simp [closed, closedL, Item.E.closedL, Prp.E.closedL, Del.E.closedL, Layer.E.closedL, Rev.E.closedL, Style.E.closedL, Lst.E.closedL, Comment.E.closedL, Var.E.closedL])
def ltAt (l : List Int) (x : Int) (i : Nat) : Int := match l[i]? with | some a => if a < x then -1 else if a = x then 0 else 1 | none => 0
def Document.norm1 (d : Document) : Document := ⟨runNormal d.flow, d.«end», d.revs, d.settings⟩
def Document.normal (d : Document) : Document := ⟨runNormal d.flow, d.«end», d.revs.filter fun r => (bsearch (ltAt (usedL d.norm1) r.id) (usedL d.norm1).length).2, d.settings⟩
def textsL (l : List Item) : Nat := (l.map fun x => x.text.size).sum
def lim (hp : Head → Prop) (K : Nat) : Nat → List Item → Prop
  | 0, _ => False
  | N + 1, l => l.length ≤ K ∧ textsL l ≤ K ∧ ∀ x ∈ l, hp x.head ∧ lim hp K N x.flow ∧ x.rows.length ≤ K ∧ ∀ r ∈ x.rows, hp r.head ∧ r.cells.length ≤ K ∧ ∀ c ∈ r.cells, hp c.head ∧ lim hp K N c.flow
theorem textsL_mem {l : List Item} {x : Item} (h : x ∈ l) : x.text.size ≤ textsL l := by
  induction l with
  | nil => cases h
  | cons a l ih =>
    have e : textsL (a :: l) = a.text.size + textsL l := by simp [textsL]
    rcases List.mem_cons.1 h with rfl | h
    · omega
    · have := ih h; omega
theorem lim.sized {hp : Head → Prop} (hh : ∀ x, hp x → x.sized) {K : Nat} (h : K ≤ 1048576) : ∀ {N : Nat} {l : List Item}, lim hp K N l → l.length ≤ 1048576 ∧ Item.sizedL l
  | N + 1, l, H => ⟨by have := H.1; omega, Item.sizedL_of fun x hx => by
    obtain ⟨a, b, c, d⟩ := H.2.2 x hx
    have ht := textsL_mem hx
    have ht2 := H.2.1
    have hf := lim.sized hh h b
    have hr : Row.sizedL x.rows := Row.sizedL_of fun r hr => by
      obtain ⟨e, f, g⟩ := d r hr
      have hc : Cell.sizedL r.cells := Cell.sizedL_of fun q hq => by
        obtain ⟨u, v⟩ := g q hq
        have hv := lim.sized hh h v
        cases q; rw [Cell.sized]; exact ⟨hh _ u, hv.1, hv.2⟩
      cases r; rw [Row.sized]; exact ⟨hh _ e, by simp only [Row.cells] at f; omega, hc⟩
    cases x; rw [Item.sized]; exact ⟨by simp only [Item.text] at ht; omega, hh _ a, hf.1, by simp only [Item.rows] at c; omega, hf.2, hr⟩⟩
def limI (hp : Head → Prop) (K N : Nat) (x : Item) : Prop := hp x.head ∧ lim hp K N x.flow ∧ x.rows.length ≤ K ∧ ∀ r ∈ x.rows, hp r.head ∧ r.cells.length ≤ K ∧ ∀ c ∈ r.cells, hp c.head ∧ lim hp K N c.flow
theorem lim_iff {hp : Head → Prop} {K N : Nat} {l : List Item} : lim hp K (N + 1) l ↔ l.length ≤ K ∧ textsL l ≤ K ∧ ∀ x ∈ l, limI hp K N x := Iff.rfl
structure SPart where
  head : Head
  mid : Bool
  units : Int
def SPart.enc (p : SPart) : SV := .agg (p.head.flat ++ [.bool p.mid, intE p.units])
structure Scope where
  id : Int
  a : Int
  b : Int
def Scope.enc (s : Scope) : SV := .agg [intE s.id, intE s.a, intE s.b]
def Item.put (x : Item) (h : Head) (f : List Item) (r : List Row) : Item := .mk x.kind x.code x.id x.text h f r
section
variable {σ : Type} (f : σ → SPart → Head × Bool × σ) (it : Int → List Item → Bool → σ → List Item × σ) (mid : Bool)
end
section
variable {σ : Type} (f : σ → SPart → Head × Bool × σ) (sc : Scope)
end
theorem foldl_take {α β : Type} (g : β → α → β) (b : β) (l : List α) (i : Nat) (x : α) (h : i < l.length) (hx : l[i] = x) : (l.take (i + 1)).foldl g b = g ((l.take i).foldl g b) x := by
  rw [List.take_succ_eq_append_getElem h, List.foldl_append, hx]; rfl
section
variable {σ : Type} {f : σ → SPart → Head × Bool × σ} {it : Int → List Item → Bool → σ → List Item × σ} {mid : Bool}
end
section
variable {hp : Head → Prop} {σ : Type} {f : σ → SPart → Head × Bool × σ} {it : Int → List Item → Bool → σ → List Item × σ} {mid : Bool} {K N : Nat}
theorem all_push {α : Type} {p : α → Prop} {l : List α} {x : α} (h : ∀ y ∈ l, p y) (hx : p x) : ∀ y ∈ l ++ [x], p y := fun y hy => by
  rcases List.mem_append.1 hy with hy | hy
  · exact h y hy
  · rw [List.mem_singleton.1 hy]; exact hx
end
mutual
theorem closed_mono {n m : Nat} (h : n ≤ m) : ∀ v : SV, closed n v = true → closed m v = true
  | .agg cs, e => by rw [closed] at *; exact closedL_mono h cs e
  | .tup cs, e => by rw [closed] at *; exact closedL_mono h cs e
  | .fn _ a b, e => by rw [closed, Bool.and_eq_true] at *; exact ⟨closedL_mono h a e.1, closedL_mono h b e.2⟩
  | .ptr o _, e => by simp only [closed, decide_eq_true_eq] at *; omega
  | .iptr cs, e => by rw [closed] at *; exact closedL_mono h cs e
  | .sl o _ _ _ _, e => by simp only [closed, decide_eq_true_eq] at *; omega
  | .slc o _ _ _ _, e => by simp only [closed, decide_eq_true_eq] at *; omega
  | .imm _ es _, e => by rw [closed] at *; exact closedL_mono h es e
  | .map o, e => by simp only [closed, decide_eq_true_eq] at *; omega
  | .yl o, e => by simp only [closed, decide_eq_true_eq] at *; omega
  | .int _ _, _ | .bool _, _ | .str _, _ | .junk, _ | .nilp, _ | .nilf, _ | .nilm, _ | .nils, _ => by simp [closed]
theorem closedL_mono {n m : Nat} (h : n ≤ m) : ∀ l : List SV, closedL n l = true → closedL m l = true
  | [], _ => by rw [closedL]
  | s :: l, e => by rw [closedL, Bool.and_eq_true] at *; exact ⟨closed_mono h s e.1, closedL_mono h l e.2⟩
end
theorem closedO_mono {n m : Nat} (h : n ≤ m) {y : SObj} (hc : closedO n y = true) : closedO m y = true := by
  cases y with
  | cells cs ty => exact closedL_mono h _ hc
  | map es =>
    simp only [closedO, List.all_eq_true, Bool.and_eq_true] at hc ⊢
    exact fun p hp => ⟨closed_mono h _ (hc p hp).1, closed_mono h _ (hc p hp).2⟩
  | loop l => rfl
  | sit s pos => rfl
  | list z es => exact closedL_mono h _ hc
  | iter l r =>
    simp only [closedO, List.all_eq_true, Bool.and_eq_true, Option.all_eq_true] at hc ⊢
    exact ⟨fun p hp => ⟨closed_mono h _ (hc.1 p hp).1, closed_mono h _ (hc.1 p hp).2⟩, fun p hp => ⟨closed_mono h _ (hc.2 p hp).1, closed_mono h _ (hc.2 p hp).2⟩⟩
section
variable {σ : Type}
def upS (st : σ → Nat → Option SObj) (s : σ) (H : Hp) : Hp := fun o => match st s o with | some y => some y | none => H o
structure Clo (st : σ → Nat → Option SObj) (n0 : Nat) (g : FuncId) (a b : List SV) (f : σ → SPart → Head × Bool × σ) (ok : Head → Prop) (rk : σ → Nat := fun _ => 0) (top : Nat := 0) : Prop where
  up : ∀ s p, rk s ≤ rk (f s p).2.2 := by exact fun _ _ => Nat.le_refl _
  lt : ∀ s o, n0 ≤ o → st s o = none
  dom : ∀ s s' o, st s o = none → st s' o = none
  cl : ∀ s o y, st s o = some y → closedO n0 y = true
  call : ∀ s p H n, ok p.head → rk (f s p).2.2 ≤ top → n0 ≤ n → (∀ o y, st s o = some y → H o = some y) → SCall Tryz.prog g (a ++ [p.enc] ++ b) H n (fun v h' n' => v = .tup [(f s p).1.enc, .bool (f s p).2.1] ∧ h' = upS st (f s p).2.2 H ∧ n' = n)
variable {st : σ → Nat → Option SObj} {n0 : Nat} {g : FuncId} {a b : List SV} {f : σ → SPart → Head × Bool × σ} {ok : Head → Prop} {rk : σ → Nat} {top : Nat}
theorem Clo.up2 (C : Clo st n0 g a b f ok rk top) (s s' : σ) (H : Hp) : upS st s' (upS st s H) = upS st s' H := by
  funext o
  simp only [upS]
  cases h : st s' o with
  | some y => rfl
  | none => simp [C.dom s' s o h]
theorem Clo.hset (C : Clo st n0 g a b f ok rk top) (s : σ) (H : Hp) {o : Nat} (h : n0 ≤ o) (y : Option SObj) : hset (upS st s H) o y = upS st s (hset H o y) := by
  funext j
  simp only [upS, Sh.hset]
  split
  · subst_vars; rw [C.lt s _ h]
  · rfl
theorem upS_self (s : σ) (H : Hp) (h : ∀ o y, st s o = some y → H o = some y) : upS st s H = H := by
  funext o
  simp only [upS]
  cases e : st s o with
  | some y => rw [h o y e]
  | none => rfl
theorem Clo.old (C : Clo st n0 g a b f ok rk top) (s : σ) {H : Hp} {n : Nat} (hn : n0 ≤ n) (ho : Old H n) : Old (upS st s H) n := fun o y e => by
  simp only [upS] at e
  cases e1 : st s o with
  | some z =>
    rw [e1] at e; cases e
    refine ⟨?_, closedO_mono hn (C.cl s o y e1)⟩
    by_cases h : n0 ≤ o
    · rw [C.lt s o h] at e1; cases e1
    · omega
  | none => rw [e1] at e; exact ho o y e
theorem Clo.acc (C : Clo st n0 g a b f ok rk top) {n m z : Nat} {o : Option Nat} {es : List SV} (hn : n0 ≤ n) (hA : AccI n m z o es) (s' : σ) (H : Hp) : upS st s' (AccH o es H) = AccH o es (upS st s' H) := by
  cases o with
  | none => rfl
  | some j => have := (hA.lt j rfl).1; simp only [AccH]; rw [C.hset s' H (by omega)]
theorem Clo.has (C : Clo st n0 g a b f ok rk top) {n m z : Nat} {o : Option Nat} {es : List SV} (hn : n0 ≤ n) (hA : AccI n m z o es) {s : σ} {H : Hp} (h : ∀ k y, st s k = some y → H k = some y) : ∀ k y, st s k = some y → AccH o es H k = some y := fun k y e => by
  cases o with
  | none => exact h k y e
  | some j =>
    have := (hA.lt j rfl).1
    simp only [AccH]
    rw [hset_ne _ _ ?_]
    · exact h k y e
    · rintro rfl; rw [C.lt s k (by omega)] at e; cases e
theorem has_up {s : σ} {H : Hp} : ∀ k y, st s k = some y → upS st s H k = some y := fun k y e => by simp [upS, e]
theorem acc_lt {n m z : Nat} {o : Option Nat} {es : List SV} {h : Hp} (hb : ∀ j y, h j = some y → j < n) (hnm : n ≤ m) (hA : AccI n m z o es) : ∀ j y, AccH o es h j = some y → j < m := fun j y e => by
  cases o with
  | none => have := hb j y e; omega
  | some k =>
    have := (hA.lt k rfl).2
    simp only [AccH, hset] at e
    split at e
    · omega
    · have := hb j y e; omega
theorem lt_none {h : Hp} {m : Nat} (hb : ∀ j y, h j = some y → j < m) {k : Nat} (hk : m ≤ k) : h k = none := by
  cases e : h k with
  | none => rfl
  | some y => have := hb k y e; omega
theorem AccV.fz' {h : Hp} {n m z k : Nat} {o : Option Nat} {es : List SV} (hn : ∀ j, n ≤ j → h j = none) (H : AccI n m z o es) {h' : Hp} (hh : ∀ j y, AccH o es h j = some y → h' j = some y) : Fz h' h (k + 1) (AccV z o es) (.imm z es false) := by
  cases o with
  | none => rw [H.none rfl]; exact .inr ⟨by simp, .inl rfl, trivial, by simp⟩
  | some j =>
    have hj := hh j (.cells (es.flatMap SV.cells)) (by simp [AccH, hset])
    refine .inr ⟨hn j (H.lt j rfl).1, by simp, rfl, rfl, _, _, hj, by simp [takeN, flat_len H.size]; rfl, H.size, ?_⟩
    have : ∀ l : List SV, All2 (Fz h' h k) l l := by
      intro l; induction l with
      | nil => trivial
      | cons a l ih => exact ⟨Fz.same, ih⟩
    simp only [← flat_len H.size, List.take_length]
    exact this _
theorem acc_old {h : Hp} {n m z : Nat} {o : Option Nat} {es : List SV} (hb : ∀ j y, h j = some y → j < n) (H : AccI n m z o es) : ∀ j x, h j = some x → AccH o es h j = some x := fun j x e => by
  cases o with
  | none => exact e
  | some k =>
    have h1 := (H.lt k rfl).1
    have h2 := hb j x e
    simp only [AccH]; rw [hset_ne _ _ (by omega)]; exact e
theorem acc_live' {h H : Hp} {n m p z : Nat} {es : List SV} {e : SV} {o : Option Nat} {v : SV} (hb : ∀ j y, h j = some y → j < n) (hn : n ≤ p) (hA : AccI n m z o es) (hH : ∀ j y, h j = some y → H j = some y) :
    ∀ j y, AccH (some p) (es ++ [e]) h j = some y → (Out.app H p { val := v, upd := o.map fun j => (j, none), new := some (.cells (es.flatMap SV.cells ++ e.cells)) }) j = some y := by
  intro j y hj
  simp only [AccH] at hj
  by_cases e1 : j = p
  · subst e1
    rw [hset_at] at hj
    simp only [Out.app, hset_at]
    rw [← hj]; simp
  · rw [hset_ne _ _ e1] at hj
    have hlt := hb j y hj
    have := hH j y hj
    cases o with
    | none => simp [Out.app, hset_ne _ _ e1, this]
    | some k =>
      have hk : j ≠ k := by have := (hA.lt k rfl).1; omega
      simp [Out.app, hset_ne _ _ e1, hset_ne _ _ hk, this]
theorem ret_accU {h : Hp} {n n' m z : Nat} {o : Option Nat} {es : List SV} (ho : Old h n) (H : AccI n m z o es) (hc : ∀ e ∈ es, closed n e = true) : RetS n (AccH o es h) n' (AccV z o es) (fun v h' n' => v = .imm z es false ∧ h' = h ∧ n' = n) :=
  .inr ⟨1, .imm z es false, h, AccV.fz ho H look_same, by rw [closed]; exact closedL_iff.2 hc, fun j x e => ⟨AccH.old ho H j x e, ho j x e⟩, rfl, rfl, rfl⟩
theorem set_keep {h h' : Hp} {m : Nat} {y : Option SObj} (hb : ∀ j z, h j = some z → j < m) (hh : ∀ j z, h j = some z → h' j = some z) : ∀ j z, h j = some z → hset h' m y j = some z := fun j z e => by
  rw [hset_ne _ _ (by have := hb j z e; omega)]; exact hh j z e
variable {it : Int → List Item → Bool → σ → List Item × σ} {mid : Bool} {P : List Item → Prop} {sc : Scope}
theorem rk_fold {α β : Type} {G : β × σ → α → β × σ} (h : ∀ q x, rk q.2 ≤ rk (G q x).2) : ∀ (l : List α) (q : β × σ), rk q.2 ≤ rk (l.foldl G q).2
  | [], _ => Nat.le_refl _
  | x :: l, q => Nat.le_trans (h q x) (rk_fold h l _)
theorem rk_take {α β : Type} {G : β × σ → α → β × σ} (h : ∀ q x, rk q.2 ≤ rk (G q x).2) (l : List α) (q : β × σ) (i : Nat) : rk ((l.take i).foldl G q).2 ≤ rk (l.foldl G q).2 := by
  conv => rhs; rw [← List.take_append_drop i l]
  rw [List.foldl_append]; exact rk_fold h _ _
end
section
variable {σ : Type} {st : σ → Nat → Option SObj} {n0 : Nat} {g : FuncId} {a b : List SV} {f : σ → SPart → Head × Bool × σ} {ok : Head → Prop} {rk : σ → Nat} {top : Nat} {it : Int → List Item → Bool → σ → List Item × σ} {mid : Bool} {P : List Item → Prop} {sc : Scope}
end
section
variable {σ : Type} {st : σ → Nat → Option SObj} {n0 : Nat} {g : FuncId} {a b : List SV} {f : σ → SPart → Head × Bool × σ} {ok : Head → Prop} {rk : σ → Nat} {top : Nat} {sc : Scope}
end
section
variable {σ : Type} {st : σ → Nat → Option SObj} {n0 : Nat} {g : FuncId} {a b : List SV} {f : σ → SPart → Head × Bool × σ} {ok : Head → Prop} {rk : σ → Nat} {top : Nat} {sc : Scope}
theorem has_set {n : Nat} (hlt : ∀ s o, n ≤ o → st s o = none) {s : σ} {H : Hp} {p : Nat} (hp : n ≤ p) (y : Option SObj) (h : ∀ k z, st s k = some z → H k = some z) : ∀ k z, st s k = some z → hset H p y k = some z := fun k z e => by
  rw [hset_ne _ _ (by rintro rfl; rw [hlt s k hp] at e; cases e)]; exact h k z e
end
section
variable {σ : Type} {st : σ → Nat → Option SObj} {n0 : Nat} {g : FuncId} {a b : List SV} {u : σ → SPart → σ} {ok : Head → Prop} {rk : σ → Nat} {top : Nat} {sc : Scope}
end
def rangeBad (sc : Scope) (l : List Item) : Prop := sc.a < 0 ∨ sc.b < sc.a ∨ (runLen l).1 < sc.b
instance (sc : Scope) (l : List Item) : Decidable (rangeBad sc l) := by unfold rangeBad; infer_instance
section
variable {σ : Type} (f : σ → SPart → Head × Bool × σ) (fl : Int → List Item → Scope → Bool → σ → List Item × σ) (sc : Scope) (mid : Bool)
end
section
variable {σ : Type} {f : σ → SPart → Head × Bool × σ} {fl : Int → List Item → Scope → Bool → σ → List Item × σ} {sc : Scope} {mid : Bool}
end
section
variable {α σ : Type} {rk : σ → Nat}
variable {f : σ → SPart → Head × Bool × σ} {fl : Int → List Item → Scope → Bool → σ → List Item × σ}
end
section
variable {σ : Type}
variable {st : σ → Nat → Option SObj} {n0 : Nat} {g : FuncId} {a b : List SV} {f : σ → SPart → Head × Bool × σ} {ok : Head → Prop} {rk : σ → Nat} {top : Nat}
variable {fl : Int → List Item → Scope → Bool → σ → List Item × σ} {mid : Bool} {P : List Item → Prop} {sc : Scope}
end
section
variable {σ : Type} {st : σ → Nat → Option SObj} {n0 : Nat} {g : FuncId} {a b : List SV} {f : σ → SPart → Head × Bool × σ} {ok : Head → Prop} {rk : σ → Nat} {top : Nat} {fl : Int → List Item → Scope → Bool → σ → List Item × σ} {mid : Bool} {P : List Item → Prop} {sc : Scope}
end
section
variable {σ : Type} {st : σ → Nat → Option SObj} {n0 : Nat} {g : FuncId} {a b : List SV} {f : σ → SPart → Head × Bool × σ} {ok : Head → Prop} {rk : σ → Nat} {top : Nat} {fl : Int → List Item → Scope → Bool → σ → List Item × σ} {P : List Item → Prop}
end
section
variable {σ : Type} {st : σ → Nat → Option SObj} {n0 : Nat} {g : FuncId} {a b : List SV} {f : σ → SPart → Head × Bool × σ} {ok : Head → Prop} {rk : σ → Nat} {top : Nat} {sc : Scope}
end
def TC (f : FuncId) (args : List SV) (T : SV → Prop) : Prop := ∀ h n, SCall Tryz.prog f args h n (fun v h' n' => T v ∧ h' = h ∧ n' = n)
theorem TC.use {E : Env} {f : FuncId} {args : List SV} {T : SV → Prop} (H : TC f args T) {h : Hp} {n : Nat} {K : SV → Hp → Nat → Prop} (hk : ∀ v, T v → K v h n) : SCallE E Tryz.prog f args h n K :=
  SCallE.lift <| (H h n).mono fun v _ _ ⟨e1, e2, e3⟩ => by subst e2; subst e3; exact hk v e1
theorem retT {h h' : Hp} {n n' : Nat} {v : SV} {T : SV → Prop} (ho : Old h n) (hh : ∀ o x, h o = some x → h' o = some x) (hc : closed n v = true) (hT : T v) : RetS n h' n' v (fun v2 h2 n2 => T v2 ∧ h2 = h ∧ n2 = n) :=
  RetS.plain hc ho hh ⟨hT, rfl, rfl⟩
theorem retTz {h h' : Hp} {n n' : Nat} {v' v : SV} {T : SV → Prop} (k : Nat) (ho : Old h n) (hh : ∀ o x, h o = some x → h' o = some x) (e : Fz h' h k v' v) (hc : closed n v = true) (hT : T v) : RetS n h' n' v' (fun v2 h2 n2 => T v2 ∧ h2 = h ∧ n2 = n) :=
  .inr ⟨k, v, h, e, hc, fun o x e => ⟨hh o x e, ho o x e⟩, hT, rfl, rfl⟩
def Err (T : Prop) (v : SV) : Prop := ∃ e : Int, v = intE e ∧ (e = 0 → T)
theorem Err.plain {T : Prop} : ∀ v, Err T v → plainS v = true := fun _ ⟨_, e, _⟩ => by rw [e]; rfl
theorem Err.no {T : Prop} {e : Int} (h : e ≠ 0) : Err T (intE e) := ⟨e, rfl, fun g => absurd g h⟩
theorem Err.ok {T : Prop} {e : Int} (h : T) : Err T (intE e) := ⟨e, rfl, fun _ => h⟩
end Go.Proofs.YthinbkgpjmjfeaaGreatDoor.Sh
