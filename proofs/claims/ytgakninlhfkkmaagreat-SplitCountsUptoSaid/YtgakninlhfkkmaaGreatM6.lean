/- A part of the proof (part 6 of 13). -/
import Derived.Test.YtgakninlhfkkmaaGreatM5
import Derived.OrdersHeld
import Derived.OrdersIn
import Derived.Shelf.SortM.Plain
import Derived.Shelf.SortM.SortNone
import Derived.Test.YtgakninlhfkkmaaGreatProg
namespace Go.Proofs.YtgakninlhfkkmaaGreat.Sh
section
variable {F : Fence} {n : Nat} {P : Program} {ops : Array Oper} {Q : Exit → Act → World → Prop} {S : World → Prop} {md : Region.Mode}
def YieldsS (P : Program) (ops : Array Oper) (S : World → Prop) (o : Oper) (v : Value) (a : Act) : Prop := YieldsIf P ops S o v a ∧ ∀ w, o.about P w a.eval = none
theorem YieldsS.wpOpIn {i : Nat} {o : Oper} {v : Value} {a : Act} (hro : F.round = none) (hi : ops[i]? = some o) (hy : YieldsS P ops S o v a)
    {K : Act → World → Prop} {w : World} (hS : S w) (h : K (a.put o.dst v) w) : wpOpIn F n P ops Q i K a w := by
  unfold Go.wpOpIn
  simp only [hi]
  have hab : ∀ f, o.about P w a.eval = some f → F.fn f := fun f hf => by rw [hy.2 w] at hf; cases hf
  rcases hy.1 with ⟨hw, hv⟩ | ⟨hw, rfl⟩
  · simp only [hw, if_true, Oper.wpIn, hro, Oper.semAt_none, hv w hS, Oper.uponIn]; exact ⟨hab, h⟩
  · simp only [hw, Bool.false_eq_true, if_false]; exact ⟨hab, h⟩
theorem YieldsS.of_same {o : Oper} {v : Value} {a a' : Act} (hy : YieldsS P ops S o v a) (he : execOp a'.eval o = execOp a.eval o)
    (hw : Region.wanted o (yielded ops a'.tmps) = Region.wanted o (yielded ops a.tmps)) (hb : ∀ w, o.about P w a'.eval = o.about P w a.eval) : YieldsS P ops S o v a' :=
  ⟨hy.1.of_same he hw, fun w => by rw [hb w]; exact hy.2 w⟩
theorem wpOpIn_putS {j : Nat} {oi oj : Oper} {v : Value} (hro : F.round = none) (hj : ops[j]? = some oj) (hap : oi.apart ops oj = true)
    (hsi : ∀ cs b, oi.op ≠ .select cs b) (hsj : ∀ cs b, oj.op ≠ .select cs b)
    (hQ : ∀ c a w, Q (.panic c) (a.put oi.dst v) w → Q (.panic c) a w) {K : Act → World → Prop} {a : Act} {w : World}
    (hy : YieldsS P ops S oi v a) (h : wpOpIn F n P ops Q j K (a.put oi.dst v) w) :
    wpOpIn F n P ops Q j (fun a' w' => YieldsS P ops S oi v a' ∧ K (a'.put oi.dst v) w') a w := by
  obtain ⟨h1, h2, h3⟩ := Oper.apart_spec hap
  have keep : ∀ (a : Act), YieldsS P ops S oi v a → ∀ u, YieldsS P ops S oi v (a.put oj.dst u) := fun a hy u =>
    hy.of_same (execOp_put oi hsi a oj.dst u h3) (wanted_put oi a oj.dst u h3) (fun w => about_put oi w a oj.dst u h3)
  have keepD : ∀ d, YieldsS P ops S oi v { a with defers := d :: a.defers } := fun d => hy.of_same rfl rfl (fun _ => rfl)
  unfold wpOpIn at *
  simp only [hj] at *
  rw [wanted_put oj a oi.dst v h1, about_put oj w a oi.dst v h1] at h
  split
  · rename_i hw
    simp only [hw, if_true] at h
    unfold Oper.wpIn at *
    rw [about_put oj w a oi.dst v h1] at h
    refine ⟨h.1, ?_⟩
    have h := h.2
    rw [hro, Oper.semAt_none, execOp_put oj hsj a oi.dst v h1] at h
    rw [hro, Oper.semAt_none]
    generalize (execOp a.eval oj).run P w = r at *
    cases r with
    | ok x w' =>
      cases x <;> simp only [Oper.uponIn] at h ⊢
      case value u => exact ⟨keep a hy u, by rw [← Act.put_comm a v u h2]; exact h⟩
      case skip => exact ⟨keep a hy _, by rw [← Act.put_comm a v undef h2]; exact h⟩
      case defer d =>
        refine ⟨keep _ (keepD d) _, ?_⟩
        rw [← Act.put_comm _ v undef h2, ← Act.put_defers]
        exact h
      case enter f args =>
        refine ⟨h.1, CallsIn.mono h.2 fun e w'' he => ?_⟩
        cases e with
        | returned u => exact ⟨keep a hy u, by rw [← Act.put_comm a v u h2]; exact he⟩
        | panicked c => exact hQ _ _ _ he
        | outgrown => exact he
      case row row args => exact ⟨h.1, RowsIn.mono h.2 fun u w'' he => ⟨keep a hy u, by rw [← Act.put_comm a v u h2]; exact he⟩⟩
      case round l f tmps assign body =>
        refine ⟨h.1, RoundIn.mono h.2 fun e w'' he => ?_⟩
        cases e with
        | returned u => exact ⟨keep a hy u, by rw [← Act.put_comm a v u h2]; exact he⟩
        | panicked c => exact hQ _ _ _ he
        | outgrown => exact he
    | halt x w' =>
      cases x <;> simp only [Oper.uponIn] at h ⊢
      case panic u => exact hQ _ _ _ h
  · rename_i hw
    simp only [hw] at h
    exact ⟨h.1, keep a hy _, by rw [← Act.put_comm a v undef h2]; exact h.2⟩
def wpAnyS (F : Fence) (n : Nat) (P : Program) (md : Region.Mode) (ops : Array Oper) (Q : Exit → Act → World → Prop) (S : World → Prop) : Nat → Array Bool → Act → World → Prop
  | 0, listed, a, w => Region.ready md ops listed = [] ∧ Q .normal a w
  | fuel + 1, listed, a, w =>
    (Region.ready md ops listed = [] → Q .normal a w) ∧
    ∀ i ∈ Region.ready md ops listed, wpOpIn F n P ops Q i (fun a' w' => S w' ∧ wpAnyS F n P md ops Q S fuel (listed.setIfInBounds i true) a' w') a w
theorem wpAnyIn_of_S : ∀ (fuel : Nat) (listed : Array Bool) (a : Act) (w : World), wpAnyS F n P md ops Q S fuel listed a w → wpAnyIn F n P md ops Q fuel listed a w
  | 0, _, _, _, h => h
  | fuel + 1, _, _, _, h => ⟨h.1, fun i hi => wpOpIn_mono (fun a' w' h' => wpAnyIn_of_S fuel _ a' w' h'.2) (h.2 i hi)⟩
theorem wpAnyS_first {i : Nat} {oi : Oper} {v : Value} (hro : F.round = none) (hi : ops[i]? = some oi) (hsel : ∀ (j : Nat) (o : Oper) cs b, ops[j]? = some o → o.op ≠ .select cs b)
    (hQ : ∀ c a w, Q (.panic c) (a.put oi.dst v) w → Q (.panic c) a w) :
    ∀ (fuel : Nat) (listed : Array Bool) (a : Act) (w : World),
      (∀ j oj, ops[j]? = some oj → j ≠ i → listed.getD j true = false → (∀ e ∈ oj.after, Region.binds md e = true → e.on ≠ i) → oi.apart ops oj = true) →
      i ∈ Region.ready md ops listed → YieldsS P ops S oi v a → S w →
      wpAnyS F n P md ops Q S fuel (listed.setIfInBounds i true) (a.put oi.dst v) w → wpAnyS F n P md ops Q S (fuel + 1) listed a w := by
  intro fuel
  induction fuel with
  | zero =>
    intro listed a w _ hr hy hS H
    refine ⟨fun h => (by rw [h] at hr; cases hr), fun j hj => ?_⟩
    by_cases hji : j = i
    · subst hji; exact hy.wpOpIn hro hi hS ⟨hS, H⟩
    · have := ready_mono hj hji
      rw [H.1] at this
      cases this
  | succ fuel ih =>
    intro listed a w hfree hr hy hS H
    refine ⟨fun h => (by rw [h] at hr; cases hr), fun j hj => ?_⟩
    by_cases hji : j = i
    · subst hji; exact hy.wpOpIn hro hi hS ⟨hS, H⟩
    · have h1 := H.2 j (ready_mono hj hji)
      obtain ⟨hjun, oj, hoj, hall⟩ := mem_ready.1 hj
      have hnot : ∀ e ∈ oj.after, Region.binds md e = true → e.on ≠ i := fun e he hb heq => by
        have h1 := hall e he hb
        have h0 := (mem_ready.1 hr).1
        rw [heq] at h1
        rcases Nat.lt_or_ge i listed.size with h' | h'
        · simp [h'] at h0 h1; rw [h0] at h1; cases h1
        · simp [Array.getElem?_eq_none h'] at h1
      have h2 := wpOpIn_putS hro hoj (hfree j oj hoj hji hjun hnot) (fun cs b => hsel i oi cs b hi) (fun cs b => hsel j oj cs b hoj) hQ hy h1
      have hfree' : ∀ k ok, ops[k]? = some ok → k ≠ i → (listed.setIfInBounds j true).getD k true = false →
          (∀ e ∈ ok.after, Region.binds md e = true → e.on ≠ i) → oi.apart ops ok = true := fun k ok hk hki hun hno => by
        refine hfree k ok hk hki ?_ hno
        by_cases hjk : j = k
        · subst hjk; exact hjun
        · rw [getD_set_ne true hjk] at hun; exact hun
      refine wpOpIn_mono (fun a' w' h3 => ⟨h3.2.1, ih (listed.setIfInBounds j true) a' w' hfree' (ready_mono hr (Ne.symm hji)) h3.1 h3.2.1 ?_⟩) h2
      rw [Array.setIfInBounds_comm _ _ hji]
      exact h3.2.2
end
def pureS (P : Program) (st : Bool) (ev : Operand → SV) : Op → Option SV
  | .move x | .assign x => some (ev x)
  | .fieldAddr t x i => fieldPtr P t (ev x) i
  | .load t a => match st, ev a with | true, .iptr cs => (takeN cs 0 (tsz P t)).bind (asm (tagg P t)) | _, _ => none
  | .indexAddr t x i => match ev x, ev i with | .imm z es f, .int _ n => if (tslice P t).isSome then indexPtr P t (.imm z es f) n else none | _, _ => none
  | .extract x i => match ev x with | .tup vs => vs[i]? | _ => none
  | .unOp op _ x => match op, ev x with | .not, .bool b => some (.bool !b) | _, _ => none
  | .pick x a b => match ev x with | .bool t => some (if t then ev a else ev b) | _ => none
  | .makeFunc f a b => some (.fn f (a.toList.map ev) (b.toList.map ev))
  | .nilCheck x => match ev x with | .ptr o a => some (.ptr o a) | .iptr cs => some (.iptr cs) | _ => none
  | .call { callee := .builtin .min, args, .. } => match args.toList with | [x, y] => (match ev x, ev y with | .int k a, .int k' b => if k = k' then some (.int k (if b < a then b else a)) else none | _, _ => none) | _ => none
  | .call { callee := .builtin .max, args, .. } => match args.toList with | [x, y] => (match ev x, ev y with | .int k a, .int k' b => if k = k' then some (.int k (if b > a then b else a)) else none | _, _ => none) | _ => none
  | .binOp op _ x y _ => match ev x, ev y with | .int k a, .int k' b => if op ≠ .shl ∧ op ≠ .shr ∧ k = k' then (intBin op k a b) else none | _, _ => none
  | .call { callee := .builtin .len, args, argTypes } => match argTypes.toList, args.toList with | [t], [x] => (match ev x with | .imm _ es _ => if (tslice P t).isSome then some (.int .i64 es.length) else none | _ => none) | _, _ => none
  | _ => none
def Same (P : Program) (ev : Operand → Value) (o : Oper) (c : Cx) (v : SV) (W : World → Prop) : Prop := ∃ u, V c v u ∧ ∀ w, W w → (execOp ev o).run P w = .ok (.value u) w
section
variable {P : Program} {ev : Operand → Value} {o : Oper} {c : Cx} {evs : Operand → SV}
theorem pure_load {t : TypeId} {x : Operand} {v : SV} {cs : List SV} (ho : o.op = .load t x) (hx : evs x = .iptr cs) (hs : (takeN cs 0 (tsz P t)).bind (asm (tagg P t)) = some v) (hv : V c (evs x) (ev x)) :
    Same P ev o c v fun w => ∃ c', c'.w = w ∧ Ext c c' := by
  rw [hx, V] at hv
  obtain ⟨a, vs, hu, hst, hc, hsp⟩ := hv
  rw [VL_iff] at hc
  cases ht : takeN cs 0 (tsz P t) with
  | none => simp [ht] at hs
  | some r =>
    simp only [ht, Option.bind_some] at hs
    obtain ⟨hle, rfl⟩ := takeN_some ht
    simp only [List.drop_zero] at hs
    have hc' := hc.take (tsz P t)
    have h1' : ∀ x ∈ vs.take (tsz P t), x.oneCell' = true := fun x hx => hst.one x (List.mem_of_mem_take hx)
    have hlen : (vs.take (tsz P t)).length = tsz P t := by have := hc.length; simp; omega
    have hcell' : ∀ c' : Cx, Ext c c' → ∀ i x, (vs.take (tsz P t))[i]? = some x → c'.w.cell? ⟨a.block, a.off + i, none⟩ = some x := fun c' X i x hx => by
      rw [List.getElem?_take] at hx
      split at hx
      · exact (hst.mono X).cell _ _ hx
      · cases hx
    rcases asm_rel hs hc' h1' with ⟨hag, hv⟩ | ⟨hag, x, hx, hv⟩
    · refine ⟨_, hv, ?_⟩
      rintro w ⟨c', rfl, X⟩
      simp [execOp, ho, hu, Instr.loadAt, Instr.sureAddr, (run_loadVar' hsp hag hlen (hcell' c' X)).1 rfl]
    · refine ⟨_, hv, ?_⟩
      rintro w ⟨c', rfl, X⟩
      simp [execOp, ho, hu, Instr.loadAt, Instr.sureAddr, (run_loadVar' hsp hag hlen (hcell' c' X)).2 rfl x hx]
theorem pure_field {t : TypeId} {x : Operand} {i : Nat} {v : SV} (ho : o.op = .fieldAddr t x i) (hs : fieldPtr P t (evs x) i = some v) (hx : V c (evs x) (ev x)) : Same P ev o c v fun _ => True := by
  simp only [fieldPtr] at hs
  cases hf : tfield P t i with
  | none => simp [hf] at hs
  | some q =>
    obtain ⟨off, ft⟩ := q
    simp only [hf] at hs
    by_cases hz : tsz P ft = 0
    · simp [hz] at hs
    · simp only [hz, if_false] at hs
      obtain ⟨fs, f, hu, hfi, rfl, rfl⟩ : ∃ fs f, P.underlying t = some (.struct fs) ∧ fs[i]? = some f ∧ f.offset = off ∧ f.type = ft := by
        unfold tfield at hf
        cases hu : P.underlying t with
        | none => simp [hu] at hf
        | some d =>
          cases d <;> simp only [hu] at hf <;> try cases hf
          rename_i fs
          simp only [Option.map_eq_some_iff] at hf
          obtain ⟨f, hfi, he⟩ := hf
          cases he
          exact ⟨fs, f, rfl, hfi, rfl, rfl⟩
      obtain ⟨ii, hi, hsz⟩ : ∃ ii, P.info? f.type = some ii ∧ tsz P f.type = ii.size := by
        cases hi : P.info? f.type with
        | none => simp [tsz, Program.cellsOf, hi] at hz
        | some ii => exact ⟨ii, rfl, by simp [tsz, Program.cellsOf, hi]⟩
      have hfp : ∀ (a : Addr) (w : World), (fieldPlace a f).run P w = .ok (a.add f.offset) w := fun a w => by
        simp [fieldPlace, sizeOf, typeInfo, hi, show ¬ ii.size = 0 by omega]
      have hrun : ∀ (a : Addr) (w : World), ev x = .pointer (some a) → (execOp ev o).run P w = .ok (.value (.pointer (some (a.add f.offset)))) w := fun a w ha => by
        simp [execOp, ho, Instr.fieldAt, run_underlying' hu, hfi, ha, Instr.sureAddr, hfp]
      split at hs <;> try (simp at hs; done)
      · rename_i j a hj
        cases hs
        rw [hj, V] at hx
        obtain ⟨b, st, hρ, hxx⟩ := hx
        refine ⟨_, ?_, fun w _ => hrun _ w hxx⟩
        rw [addr_add, V]
        exact ⟨b, st, hρ, by rw [Nat.add_assoc]⟩
      · rename_i cs hj
        cases hs
        rw [hj, V] at hx
        obtain ⟨a, vs, hxx, hst, hc, hsp⟩ := hx
        refine ⟨_, ?_, fun w _ => hrun _ w hxx⟩
        rw [addr_add' hsp, V]
        refine ⟨_, vs.drop f.offset, rfl, ⟨fun _ => rfl, fun hv => hst.free (by rintro rfl; simp at hv), fun j x hj => ?_, fun x hx => hst.one x (List.mem_of_mem_drop hx)⟩, VL_iff.2 ((VL_iff.1 hc).drop _), rfl⟩
        rw [List.getElem?_drop] at hj
        simp only [Nat.add_assoc]
        exact hst.cell _ _ hj
theorem pure_index {t : TypeId} {x y : Operand} {z' : Nat} {es : List SV} {full : Bool} {kk : IntKind} {n : Int} {v : SV} (ho : o.op = .indexAddr t x y) (hj : evs x = .imm z' es full) (hn : evs y = .int kk n) (hsl0 : (tslice P t).isSome = true)
    (hs : indexPtr P t (.imm z' es full) n = some v) (hx : V c (evs x) (ev x)) (hy : V c (evs y) (ev y)) : Same P ev o c v fun _ => True := by
  rw [hn] at hy
  have hy' := vint hy
  obtain ⟨e, hsl⟩ := Option.isSome_iff_exists.1 hsl0
  have hu := tslice_some hsl
  simp only [indexPtr, hsl] at hs
  by_cases hz : tsz P e = 0
  · simp [hz] at hs
  obtain ⟨ii, hi, hsz⟩ := tsz_pos hz
  simp only [hz, if_false] at hs
  by_cases hc : z' = tsz P e ∧ 0 ≤ n
  · simp only [hc, and_self, if_true] at hs
    obtain ⟨hc1, hc2⟩ := hc
    cases he : es[n.toNat]? with
    | none => simp [he] at hs
    | some v =>
      simp only [he, Option.map_some, Option.some.injEq] at hs
      subst hs
      rw [hj, V] at hx
      rcases hx with ⟨hx, _⟩ | ⟨a, cap, vs, hxx, _, _, hst, hE⟩
      · subst hx; simp at he
      · subst hc1
        have hspot : a.spot = none := hst.spot (fun e0 => by have h1 := VE_len hE; have h2 := (List.getElem?_eq_some_iff.1 he).1; rw [e0, List.length_nil] at h1; have h3 : 0 < es.length * tsz P e := Nat.mul_pos (by omega) (by omega); omega)
        obtain ⟨u, g1, g2, g3, g4, g5⟩ := imm_elem hE he
        have hlt : n < es.length := by have := (List.getElem?_eq_some_iff.1 he).1; omega
        refine ⟨.pointer (some ⟨a.block, a.off + n.toNat * tsz P e, none⟩), ?_, fun w _ => ?_⟩
        · rw [V]
          exact ⟨_, u.cells.toList, rfl, by rw [← g4]; exact hst.sub _ _, VL_iff.2 (g1.cells g2).1, rfl⟩
        · simp [execOp, ho, Instr.indexAt, hy', asIntOf, run_underlying' hu, hxx, hc2, hlt, sizeOf, typeInfo, hi, addr_add' hspot, hsz]
  · simp [hc] at hs
theorem Same.mono {v : SV} {W W' : World → Prop} (H : Same P ev o c v W) (h : ∀ w, W' w → W w) : Same P ev o c v W' := let ⟨u, h1, h2⟩ := H; ⟨u, h1, fun w hw => h2 w (h w hw)⟩
theorem pure_any {st : Bool} {v : SV} (hs : pureS P st evs o.op = some v) (H : ∀ x ∈ o.op.operands, V c (evs x) (ev x)) {W : World → Prop} (hW : st = true → ∀ w, W w → ∃ c', c'.w = w ∧ Ext c c') : Same P ev o c v W := by
  unfold pureS at hs
  split at hs
  · rename_i x ho
    rw [ho] at H
    cases hs
    exact ⟨_, H x (by simp [Op.operands]), fun w _ => by simp [execOp, ho]⟩
  · rename_i x ho
    rw [ho] at H
    cases hs
    exact ⟨_, H x (by simp [Op.operands]), fun w _ => by simp [execOp, ho]⟩
  · rename_i t x i ho
    rw [ho] at H
    exact (pure_field ho hs (H x (by simp [Op.operands]))).mono fun _ _ => trivial
  · rename_i t a ho
    rw [ho] at H
    split at hs <;> try cases hs
    rename_i cs hx
    exact (pure_load ho hx hs (H a (by simp [Op.operands]))).mono (hW rfl)
  · rename_i t x i ho
    rw [ho] at H
    split at hs <;> try cases hs
    rename_i z es f k n hx hy
    split at hs <;> try cases hs
    rename_i hsl
    exact (pure_index ho hx hy hsl hs (H x (by simp [Op.operands])) (H i (by simp [Op.operands]))).mono fun _ _ => trivial
  · rename_i x i ho
    rw [ho] at H
    split at hs <;> try cases hs
    rename_i vs hx
    have hv := H x (by simp [Op.operands])
    rw [hx, V] at hv
    obtain ⟨us, hu, hl⟩ := hv
    obtain ⟨u, hu2, hvu⟩ := (VL_iff.1 hl).get hs
    exact ⟨u, hvu, fun w _ => by simp [execOp, ho, hu, Instr.extract, hu2]⟩
  · rename_i op t x ho
    rw [ho] at H
    have hx := H x (by simp [Op.operands])
    split at hs <;> try cases hs
    rename_i b e1
    rw [e1] at hx
    exact ⟨.bool !b, by rw [V], fun w _ => by simp [execOp, ho, vbool hx, Op.unary]⟩
  · rename_i x a b ho
    rw [ho] at H
    have hx := H x (by simp [Op.operands])
    split at hs <;> try cases hs
    rename_i t e1
    rw [e1] at hx
    have hx' := vbool hx
    cases t
    · exact ⟨ev b, by simpa using H b (by simp [Op.operands]), fun w _ => by simp [execOp, ho, hx', asBool]⟩
    · exact ⟨ev a, by simpa using H a (by simp [Op.operands]), fun w _ => by simp [execOp, ho, hx', asBool]⟩
  · rename_i f a b ho
    rw [ho] at H
    cases hs
    refine ⟨.func f (a.map ev) (b.map ev), ?_, fun w _ => by simp [execOp, ho, Instr.makeFunc]⟩
    rw [V]
    exact ⟨(a.map ev).toList, (b.map ev).toList, by rw [Array.toArray_toList, Array.toArray_toList], VL_iff.2 (map_rel a fun x hx => H x (by simp [Op.operands] at hx ⊢; exact .inl hx)), VL_iff.2 (map_rel b fun x hx => H x (by simp [Op.operands] at hx ⊢; exact .inr hx))⟩
  · rename_i x ho
    rw [ho] at H
    have hx := H x (by simp [Op.operands])
    split at hs <;> try cases hs
    · rename_i j off e1
      rw [e1] at hx
      have hx' := hx
      rw [V] at hx
      obtain ⟨b, st, _, hu⟩ := hx
      exact ⟨ev x, hx', fun w _ => by simp [execOp, ho, hu]⟩
    · rename_i cs e1
      rw [e1] at hx
      have hx' := hx
      rw [V] at hx
      obtain ⟨a, vs, hu, _⟩ := hx
      exact ⟨ev x, hx', fun w _ => by simp [execOp, ho, hu]⟩
  · rename_i args ts ho
    rw [ho] at H
    split at hs <;> try cases hs
    rename_i x y e1
    have ea := args2 e1
    subst ea
    have hx := H x (by simp [Op.operands, Call.operands])
    have hy := H y (by simp [Op.operands, Call.operands])
    split at hs <;> try cases hs
    rename_i k a k' b g1 g2
    split at hs <;> try cases hs
    rename_i hk
    subst hk
    rw [g1] at hx
    rw [g2] at hy
    exact ⟨.int k (if b < a then b else a), by rw [V], fun w _ => run_builtin (P := P) (ev := ev) ho w w _ fun cs => by simp [builtin, vint hx, vint hy, Builtin.min_, Builtin.min2]⟩
  · rename_i args ts ho
    rw [ho] at H
    split at hs <;> try cases hs
    rename_i x y e1
    have ea := args2 e1
    subst ea
    have hx := H x (by simp [Op.operands, Call.operands])
    have hy := H y (by simp [Op.operands, Call.operands])
    split at hs <;> try cases hs
    rename_i k a k' b g1 g2
    split at hs <;> try cases hs
    rename_i hk
    subst hk
    rw [g1] at hx
    rw [g2] at hy
    exact ⟨.int k (if b > a then b else a), by rw [V], fun w _ => run_builtin (P := P) (ev := ev) ho w w _ fun cs => by simp [builtin, vint hx, vint hy, Builtin.max_, Builtin.max2]⟩
  · rename_i op t x y t2 ho
    rw [ho] at H
    have hx := H x (by simp [Op.operands])
    have hy := H y (by simp [Op.operands])
    split at hs <;> try cases hs
    rename_i k a k' b e1 e2
    split at hs <;> try cases hs
    rename_i hc
    obtain ⟨n1, n2, rfl⟩ := hc
    rw [e1] at hx
    rw [e2] at hy
    have hrun : ∀ w, ∃ r, (execOp ev o).run P w = .ok (.value r) w ∧ V c v r := fun w => by
      obtain ⟨r, h1, h2⟩ := intBin_rel (c := c) (P := P) (t := t) hs n1 n2 w
      exact ⟨r, by simp [execOp, ho, vint hx, vint hy, run_eqGuard (P := P), h1], h2⟩
    obtain ⟨u, hu⟩ : ∃ u, ∀ r, V c v r → r = u := by
      cases op <;> simp only [intBin] at hs <;> (try split at hs) <;> (try cases hs) <;> first | exact ⟨_, fun r hr => vint hr⟩ | exact ⟨_, fun r hr => vbool hr⟩ | (exact absurd rfl n1) | (exact absurd rfl n2)
    obtain ⟨r0, h1, h2⟩ := hrun c.w
    have e0 := hu r0 h2
    subst e0
    refine ⟨_, h2, fun w _ => ?_⟩
    obtain ⟨r, h3, h4⟩ := hrun w
    rw [h3, hu r h4]
  · rename_i args ts ho
    rw [ho] at H
    split at hs <;> try cases hs
    rename_i t x e1 e2
    split at hs <;> try cases hs
    rename_i z es f e3
    split at hs <;> try cases hs
    rename_i hsl
    obtain ⟨e, he⟩ := tsome hsl
    have ea := args1 e2
    have et := args1 e1
    subst ea et
    have hv := H x (by simp [Op.operands, Call.operands])
    rw [e3, V] at hv
    refine ⟨.int .i64 es.length, by rw [V], fun w _ => run_builtin (P := P) (ev := ev) ho w w _ fun cs => ?_⟩
    rcases hv with ⟨rfl, hu⟩ | ⟨a, cap, vs, hu, _⟩
    · simp [builtin, hu, Builtin.len_, run_underlying' (tslice_some he), goInt]
    · simp [builtin, hu, Builtin.len_, run_underlying' (tslice_some he), goInt]
  · cases hs
theorem pure_about {st : Bool} {v : SV} (hs : pureS P st evs o.op = some v) (w : World) : o.about P w ev = none := by
  unfold Oper.about
  unfold pureS at hs
  split at hs <;> first | (rename_i ho; rw [ho]; done) | (rename_i _ ho; rw [ho]; done) | (rename_i _ _ ho; rw [ho]; done) | (rename_i _ _ _ ho; rw [ho]; done) | (rename_i _ _ _ _ _ ho; rw [ho]; done) | (rename_i ho; rw [ho]; simp [resolve, Target.leads]; done) | cases hs
def pureKind : Op → Bool
  | .move _ | .assign _ | .fieldAddr .. | .load .. | .indexAddr .. | .extract .. | .unOp .. | .pick .. | .binOp .. | .makeFunc .. | .nilCheck _ => true
  | .call { callee := .builtin .len, .. } | .call { callee := .builtin .min, .. } | .call { callee := .builtin .max, .. } => true
  | _ => false
theorem kind_about (hs : pureKind o.op = true) (w : World) : o.about P w ev = none := by
  unfold Oper.about
  cases ho : o.op <;> simp [ho, pureKind] at hs ⊢
  split at hs <;> first | (rename_i h; cases h; done) | skip
  all_goals first | (rename_i h; cases h; simp [resolve, Target.leads]; done) | (simp at hs; done) | trace_state
end
inductive Tr where
  | nil
  | pure (i : Nat) (t : Tr)
  | one (i : Nat) (t : Tr)
  | two (i j : Nat) (t u : Tr)
def trOk (ops : Array Oper) : Array Bool → Tr → Bool
  | listed, .nil => (Region.ready .any ops listed).isEmpty
  | listed, .pure i t => Region.free .any ops listed i && (Region.ready .any ops listed).contains i && trOk ops (listed.setIfInBounds i true) t
  | listed, .one i t => Region.ready .any ops listed == [i] && trOk ops (listed.setIfInBounds i true) t
  | listed, .two i j t u => Region.ready .any ops listed == [i, j] && trOk ops (listed.setIfInBounds i true) t && trOk ops (listed.setIfInBounds j true) u
section
variable (E : Env) (P : Program) (ops : Array Oper) (K : SA → Hp → Nat → Prop)
def stepG (o : Oper) (sa : SA) (h : Hp) (n : Nat) (T : SA → Hp → Nat → Prop) : Prop :=
  match guardS ops sa o with
  | some b => if b = true then stepE E P o sa h n fun v h' n' => T (putT sa o.dst v) h' n' else T (putT sa o.dst (.tup [])) h n
  | none => False
def pureG (st : Bool) (o : Oper) (sa : SA) (T : SA → Prop) : Prop :=
  match guardS ops sa o with
  | some b => if b = true then match pureS P st (evS sa) o.op with | some v => T (putT sa o.dst v) | none => False else pureKind o.op = true ∧ T (putT sa o.dst (.tup []))
  | none => False
def trW : Bool → Tr → SA → Hp → Nat → Prop
  | _, .nil, sa, h, n => K sa h n
  | st, .pure i t, sa, h, n => match ops[i]? with | some o => pureG P ops st o sa fun sa' => trW st t sa' h n | none => False
  | _, .one i t, sa, h, n => match ops[i]? with | some o => stepG E P ops o sa h n (trW false t) | none => False
  | _, .two i j t u, sa, h, n => match ops[i]?, ops[j]? with | some o, some q => stepG E P ops o sa h n (trW false t) ∧ stepG E P ops q sa h n (trW false u) | _, _ => False
end
section
variable {E : Env} {P : Program} {N : Nat} {ops : Array Oper} {K : SA → Hp → Nat → Prop}
def LiftN (E : Env) (N n : Nat) (c : Cx) (K : SA → Hp → Nat → Prop) : Exit → Act → World → Prop := fun e a' w' =>
  e = .normal ∧ ∃ sa' h' n' c', K sa' h' n' ∧ c'.w = w' ∧ Rel h' c' ∧ Fr n' c' ∧ FR E N sa' c' a' ∧ Adv n c n' c'
theorem stepG_sound {i : Nat} {o : Oper} {sa : SA} {h : Hp} {n : Nat} {T : SA → Hp → Nat → Prop} {c : Cx} {a : Act} {Kr : Act → World → Prop} {Qr : Exit → Act → World → Prop} (hi : ops[i]? = some o) (hd : ∀ d, o.dst = some d → d < N)
    (H : stepG E P ops o sa h n T) (I : E.inv c) (R : Rel h c) (F : Fr n c) (A : FR E N sa c a)
    (hK : ∀ sa' h' n' c' a', T sa' h' n' → Rel h' c' → Fr n' c' → FR E N sa' c' a' → Adv n c n' c' → Kr a' c'.w) : wpOpIn E.fc 0 P ops Qr i Kr a c.w := by
  unfold wpOpIn
  rw [hi]
  simp only
  unfold stepG at H
  split at H
  · rename_i b hg
    rw [guard_rel A hg]
    cases b
    · simp only [Bool.false_eq_true, if_false] at H ⊢
      exact ⟨fun _ _ => trivial, hK _ _ _ c _ H R F (A.put hd V_undef) (Adv.refl n c)⟩
    · simp only [if_true] at H ⊢
      exact stepE_sound H I R F A fun v h' n' c' u hk hv R' F' X' => hK _ _ _ c' _ hk R' F' ((A.ext X'.ext).put hd hv) X'
  · exact H.elim
theorem tr_sound (hro : E.ro = none) (hdst : ∀ (i : Nat) (o : Oper), ops[i]? = some o → ∀ d, o.dst = some d → d < N) (hsel : ∀ (j : Nat) (o : Oper) cs b, ops[j]? = some o → o.op ≠ .select cs b) {n0 : Nat} {c0 c1 : Cx} :
    ∀ (t : Tr) (st : Bool) (listed : Array Bool) (fuel : Nat) (sa : SA) (h : Hp) (n : Nat) (c : Cx) (a : Act), listed.size = ops.size → unl listed = fuel → trOk ops listed t = true → trW E P ops K st t sa h n →
      E.inv c → Rel h c → Fr n c → FR E N sa c a → Adv n0 c0 n c → Ext c1 c → (st = true → c = c1) →
      wpAnyS E.fc 0 P .any ops (LiftN E N n0 c0 K) (fun w => ∃ c', c'.w = w ∧ Ext c1 c') fuel listed a c.w := by
  have hfr : E.fc.round = none := hro
  intro t
  induction t with
  | nil =>
    intro st listed fuel sa h n c a _ _ hok H I R F A X _ _
    have hr : Region.ready .any ops listed = [] := by simpa [trOk] using hok
    have hq : LiftN E N n0 c0 K .normal a c.w := ⟨rfl, sa, h, n, c, H, rfl, R, F, A, X⟩
    cases fuel with
    | zero => exact ⟨hr, hq⟩
    | succ fuel => exact ⟨fun _ => hq, by rw [hr]; simp⟩
  | pure i t ih =>
    intro st listed fuel sa h n c a hs hu hok H I R F A X X1 hst
    simp only [trOk, Bool.and_eq_true] at hok
    obtain ⟨⟨hfree, hr⟩, hok⟩ := hok
    simp only [trW] at H
    split at H
    case h_2 => exact H.elim
    rename_i o ho
    have hmem : i ∈ Region.ready .any ops listed := by simpa using hr
    obtain ⟨hun, _, _, _⟩ := mem_ready.1 hmem
    have hlt := (Array.getElem?_eq_some_iff.1 ho).1
    have hF : listed.getD i false = false := by rw [getD_lt (by omega)] at hun ⊢; exact hun
    have hu2 := unl_set (by omega) hF
    obtain ⟨fuel, rfl⟩ : ∃ f, fuel = f + 1 := ⟨fuel - 1, by omega⟩
    unfold pureG at H
    split at H
    case h_2 => exact H.elim
    rename_i b hg
    have hw := guard_rel A hg
    cases b
    · simp only [Bool.false_eq_true, if_false] at H
      refine wpAnyS_first (v := undef) hfr ho hsel (fun _ _ _ e => by cases e.1) fuel listed a c.w (Region.free_spec ho hfree) hmem ⟨.inr ⟨hw, rfl⟩, fun w => kind_about H.1 w⟩ ⟨c, rfl, X1⟩ (ih st _ fuel _ h n c _ (by simp [hs]) (by omega) hok H.2 I R F (A.put (hdst i o ho) V_undef) X X1 hst)
    · simp only [if_true] at H
      split at H
      case h_2 => exact H.elim
      rename_i v hv
      obtain ⟨u, hvu, hrun⟩ := pure_any (c := c) (W := fun w => ∃ c', c'.w = w ∧ Ext c1 c') hv (fun x _ => A.ev x) (fun e w hw => by rw [hst e]; exact hw)
      refine wpAnyS_first (v := u) hfr ho hsel (fun _ _ _ e => by cases e.1) fuel listed a c.w (Region.free_spec ho hfree) hmem ⟨.inl ⟨hw, hrun⟩, fun w => pure_about hv w⟩ ⟨c, rfl, X1⟩
        (ih st _ fuel _ h n c _ (by simp [hs]) (by omega) hok H I R F (A.put (hdst i o ho) hvu) X X1 hst)
  | one i t ih =>
    intro st listed fuel sa h n c a hs hu hok H I R F A X X1 hst
    simp only [trOk, Bool.and_eq_true, beq_iff_eq] at hok
    obtain ⟨hr, hok⟩ := hok
    simp only [trW] at H
    split at H
    case h_2 => exact H.elim
    rename_i o ho
    have hmem : i ∈ Region.ready .any ops listed := by rw [hr]; simp
    obtain ⟨hun, _, _, _⟩ := mem_ready.1 hmem
    have hlt := (Array.getElem?_eq_some_iff.1 ho).1
    have hF : listed.getD i false = false := by rw [getD_lt (by omega)] at hun ⊢; exact hun
    have hu2 := unl_set (by omega) hF
    obtain ⟨fuel, rfl⟩ : ∃ f, fuel = f + 1 := ⟨fuel - 1, by omega⟩
    refine ⟨fun e => (by rw [e] at hr; cases hr), fun j hj => ?_⟩
    rw [hr] at hj
    obtain rfl := List.mem_singleton.1 hj
    exact stepG_sound ho (hdst j o ho) H I R F A fun sa' h' n' c' a' hT R' F' A' X' => ⟨⟨c', rfl, X1.trans X'.ext⟩, ih false _ fuel _ h' n' c' a' (by simp [hs]) (by omega) hok hT (E.ext X'.ext I) R' F' A' (X.trans X') (X1.trans X'.ext) (by simp)⟩
  | two i j t u iht ihu =>
    intro st listed fuel sa h n c a hs hu hok H I R F A X X1 hst
    simp only [trOk, Bool.and_eq_true, beq_iff_eq] at hok
    obtain ⟨⟨hr, hok1⟩, hok2⟩ := hok
    simp only [trW] at H
    split at H
    case h_2 => exact H.elim
    rename_i o q ho hq
    have hun : ∀ k, k ∈ Region.ready .any ops listed → unl (listed.setIfInBounds k true) + 1 = unl listed := fun k hk => by
      obtain ⟨hun, o', ho', _⟩ := mem_ready.1 hk
      have hlt := (Array.getElem?_eq_some_iff.1 ho').1
      have hF : listed.getD k false = false := by rw [getD_lt (by omega)] at hun ⊢; exact hun
      exact unl_set (by omega) hF
    have hui := hun i (by rw [hr]; simp)
    have huj := hun j (by rw [hr]; simp)
    obtain ⟨fuel, rfl⟩ : ∃ f, fuel = f + 1 := ⟨fuel - 1, by omega⟩
    refine ⟨fun e => (by rw [e] at hr; cases hr), fun k hk => ?_⟩
    rw [hr] at hk
    rcases List.mem_cons.1 hk with rfl | hk
    · exact stepG_sound ho (hdst _ o ho) H.1 I R F A fun sa' h' n' c' a' hT R' F' A' X' => ⟨⟨c', rfl, X1.trans X'.ext⟩, iht false _ fuel _ h' n' c' a' (by simp [hs]) (by omega) hok1 hT (E.ext X'.ext I) R' F' A' (X.trans X') (X1.trans X'.ext) (by simp)⟩
    · obtain rfl := List.mem_singleton.1 hk
      exact stepG_sound hq (hdst _ q hq) H.2 I R F A fun sa' h' n' c' a' hT R' F' A' X' => ⟨⟨c', rfl, X1.trans X'.ext⟩, ihu false _ fuel _ h' n' c' a' (by simp [hs]) (by omega) hok2 hT (E.ext X'.ext I) R' F' A' (X.trans X') (X1.trans X'.ext) (by simp)⟩
theorem SWE_tr (hro : E.ro = none) (hm : P.follows .mixedOrders = true) (t : Tr) {id : Nat} {Q : Post} {sa : SA} {h : Hp} {n : Nat} (hs : Region.noSelect ops = true) (hok : trOk ops (Array.replicate ops.size false) t = true)
    (H : trW E P ops (Q .normal) true t sa h n) : SWE E P N (.region id ops true) Q sa h n := by
  intro hd c a I R F A
  simp only [Code.dok, List.all_eq_true] at hd
  have hdd : ∀ (i : Nat) (o : Oper), ops[i]? = some o → ∀ d, o.dst = some d → d < N := fun i o ho d e => by
    have := hd o (by simpa using Array.mem_of_getElem? ho)
    rw [e] at this; simpa using this
  have := tr_sound (E := E) (P := P) (N := N) (K := Q .normal) (n0 := n) (c0 := c) (c1 := c.drew) hro hdd (Region.noSelect_spec hs) t true (Array.replicate ops.size false) ops.size sa h n c.drew a (by simp) (by simp [unl]) hok H
    (E.ext c.drew_ext I) R.drew (fun j hj => F j hj) (A.ext c.drew_ext) ⟨c.drew_ext, Nat.le_refl _, fun _ _ => rfl⟩ (Ext.refl _) (fun _ => rfl)
  refine wpIn_mono (wpIn_region_any hm (wpAnyIn_of_S (S := fun w => ∃ c', c'.w = w ∧ Ext c.drew c') _ _ _ _ this)) ?_
  rintro e a' w' ⟨rfl, sa', h', n', c', h1, h2, h3, h4, h5, h6⟩
  exact ⟨sa', h', n', c', h1, h2, h3, h4, h5, h6⟩
end
open Proofs
noncomputable def wtr : (E : Env) → (P : Program) → (ops : Array Oper) → (K : SA → Hp → Nat → Prop) → Bool → Tr → SA → Hp → Nat → Prop := Classical.choose (held trW)
theorem wtr_eq : wtr = trW := Classical.choose_spec (held trW)
noncomputable def ktr : (E : Env) → (P : Program) → (ops : Array Oper) → (K : SA → Hp → Nat → Prop) → Tr → SA → Option Tmp → SV → Hp → Nat → Prop :=
  Classical.choose (held fun E P ops K t sa dst v h n => wtr E P ops K false t (putT sa dst v) h n)
section
variable (E : Env) (P : Program) (ops : Array Oper) (K : SA → Hp → Nat → Prop) (st : Bool) (t u : Tr) (sa : SA) (h : Hp) (n i j : Nat)
@[go_sem] theorem ktr_at (dst : Option Tmp) (v : SV) : ktr E P ops K t sa dst v h n = wtr E P ops K false t (putT sa dst v) h n := by
  unfold ktr; rw [Classical.choose_spec (held fun E P ops K t sa dst v h n => wtr E P ops K false t (putT sa dst v) h n)]
theorem ktr_fun (o : Oper) : ktr E P ops K t sa o.dst = fun v h' n' => trW E P ops K false t (putT sa o.dst v) h' n' := by
  funext v h' n'; rw [ktr_at, wtr_eq]
@[go_sem] theorem wtr_nil : wtr E P ops K st .nil sa h n = K sa h n := by rw [wtr_eq]; simp only [trW]
@[go_sem] theorem wtr_pure : wtr E P ops K st (.pure i t) sa h n = match ops[i]? with
    | some o => (match guardS ops sa o with
      | some b => if b = true then (match pureS P st (evS sa) o.op with | some v => wtr E P ops K st t (putT sa o.dst v) h n | none => False) else pureKind o.op = true ∧ wtr E P ops K st t (putT sa o.dst (.tup [])) h n
      | none => False)
    | none => False := by
  rw [wtr_eq]; simp only [trW, pureG]
  all_goals
    cases ops[i]? with
    | none => rfl
    | some o =>
      simp only
      cases guardS ops sa o with
      | none => rfl
      | some b => cases b with
        | false => rfl
        | true => simp only [if_true]; cases pureS P st (evS sa) o.op <;> rfl
def stepT (o : Oper) : Prop :=
  match guardS ops sa o with
  | some b => if b = true then stepE E P o sa h n (ktr E P ops K t sa o.dst) else wtr E P ops K false t (putT sa o.dst (.tup [])) h n
  | none => False
theorem stepT_eq (o : Oper) : stepT E P ops K t sa h n o = stepG E P ops o sa h n (trW E P ops K false t) := by
  unfold stepT stepG
  rw [ktr_fun, wtr_eq]
  all_goals
    cases guardS ops sa o with
    | none => rfl
    | some b => cases b <;> rfl
@[go_sem] theorem wtr_one : wtr E P ops K st (.one i t) sa h n = match ops[i]? with | some o => stepT E P ops K t sa h n o | none => False := by
  rw [wtr_eq]; simp only [trW, stepT_eq] <;> cases ops[i]? <;> rfl
@[go_sem] theorem wtr_two : wtr E P ops K st (.two i j t u) sa h n = match ops[i]?, ops[j]? with | some o, some q => stepT E P ops K t sa h n o ∧ stepT E P ops K u sa h n q | _, _ => False := by
  rw [wtr_eq]; simp only [trW, stepT_eq] <;> cases ops[i]? <;> cases ops[j]? <;> rfl
end
attribute [go_sem] stepT pureS pureKind
theorem SP_tr {E : Env} {N id : Nat} {ops : Array Oper} {Q : Post} {sa : SA} {h : Hp} {n : Nat} (t : Tr) (hro : E.ro = none) (hs : Region.noSelect ops = true) (hok : trOk ops (Array.replicate ops.size false) t = true)
    (H : wtr E Tryz.prog ops (Q .normal) true t sa h n) : SP E N (.region id ops true) Q sa h n :=
  SWE_tr hro follows t hs hok (by rw [← wtr_eq]; exact H)
end Go.Proofs.YtgakninlhfkkmaaGreat.Sh
namespace Go.Proofs
open Go.Shelf
def Tryz.sortA_ren : Go.Shelf.Ren := ⟨fun | 5 => 197 | 8 => 169 | 7 => 261 | 19 => 245 | 20 => 246 | 10 => 290 | 11 => 291 | 12 => 292 | 13 => 293 | 14 => 294 | 15 => 295 | 16 => 142 | 17 => 296 | 18 => 297 | 30 => 315 | 31 => 281 | 32 => 282 | 33 => 316 | 34 => 317 | 35 => 170 | 40 => 326 | n => n, fun | 23 => 61 | 25 => 3 | 3 => 3 | 32 => 213 | 22 => 61 | 0 => 0 | 44 => 306 | 46 => 308 | 4 => 4 | 36 => 300 | 35 => 299 | 41 => 123 | 5 => 5 | 9 => 9 | 53 => 342 | 57 => 72 | 63 => 373 | 64 => 374 | n => n, fun | n => n⟩
theorem Tryz.sortA : Go.Proofs.SlLaysM.n5 Tryz.prog Tryz.sortA_ren := {
  mixed := by kernel_rfl
  f5 := ⟨Tryz.f197.name, by decide, Tryz.func197.trans (congrArg some (by kernel_rfl))⟩
  f7 := ⟨Tryz.f261.name, by decide, Tryz.func261.trans (congrArg some (by kernel_rfl))⟩
  f8 := Tryz.func169.trans (congrArg some (by kernel_rfl))
  f10 := ⟨Tryz.f290.name, by decide, Tryz.func290.trans (congrArg some (by kernel_rfl))⟩
  f11 := ⟨Tryz.f291.name, by decide, Tryz.func291.trans (congrArg some (by kernel_rfl))⟩
  f12 := ⟨Tryz.f292.name, by decide, Tryz.func292.trans (congrArg some (by kernel_rfl))⟩
  f13 := ⟨Tryz.f293.name, by decide, Tryz.func293.trans (congrArg some (by kernel_rfl))⟩
  f14 := ⟨Tryz.f294.name, by decide, Tryz.func294.trans (congrArg some (by kernel_rfl))⟩
  f15 := ⟨Tryz.f295.name, by decide, Tryz.func295.trans (congrArg some (by kernel_rfl))⟩
  f16 := ⟨Tryz.f142.name, by decide, Tryz.func142.trans (congrArg some (by kernel_rfl))⟩
  f17 := ⟨Tryz.f296.name, by decide, Tryz.func296.trans (congrArg some (by kernel_rfl))⟩
  f18 := ⟨Tryz.f297.name, by decide, Tryz.func297.trans (congrArg some (by kernel_rfl))⟩
  f19 := Tryz.func245.trans (congrArg some (by kernel_rfl))
  f20 := Tryz.func246.trans (congrArg some (by kernel_rfl))
  f30 := ⟨Tryz.f315.name, by decide, Tryz.func315.trans (congrArg some (by kernel_rfl))⟩
  f31 := Tryz.func281.trans (congrArg some (by kernel_rfl))
  f32 := Tryz.func282.trans (congrArg some (by kernel_rfl))
  f33 := ⟨Tryz.f316.name, by decide, Tryz.func316.trans (congrArg some (by kernel_rfl))⟩
  f34 := ⟨Tryz.f317.name, by decide, Tryz.func317.trans (congrArg some (by kernel_rfl))⟩
  f35 := ⟨Tryz.f170.name, by decide, Tryz.func170.trans (congrArg some (by kernel_rfl))⟩
  f40 := ⟨Tryz.f326.name, by decide, Tryz.func326.trans (congrArg some (by kernel_rfl))⟩
  t0 := Tryz.underlying0
  a0 := Tryz.isAgg0
  z0 := Tryz.sizeOf0
  v0 := Tryz.zeroValue0
  t3 := Tryz.underlying3
  a3 := Tryz.isAgg3
  z3 := Tryz.sizeOf3
  v3 := Tryz.zeroValue3
  t4 := Tryz.underlying4
  a4 := Tryz.isAgg4
  z4 := Tryz.sizeOf4
  v4 := Tryz.zeroValue4
  t5 := Tryz.underlying5
  a5 := Tryz.isAgg5
  z5 := Tryz.sizeOf5
  v5 := Tryz.zeroValue5
  t9 := Tryz.underlying9
  a9 := Tryz.isAgg9
  z9 := Tryz.sizeOf9
  v9 := Tryz.zeroValue9
  t22 := Tryz.underlying61
  a22 := Tryz.isAgg61
  z22 := Tryz.sizeOf61
  v22 := Tryz.zeroValue61
  t23 := Tryz.underlying61
  a23 := Tryz.isAgg61
  z23 := Tryz.sizeOf61
  v23 := Tryz.zeroValue61
  t25 := Tryz.underlying3
  a25 := Tryz.isAgg3
  z25 := Tryz.sizeOf3
  v25 := Tryz.zeroValue3
  t32 := Tryz.underlying213
  a32 := Tryz.isAgg213
  z32 := Tryz.sizeOf213
  v32 := Tryz.zeroValue213
  t35 := Tryz.underlying299
  a35 := Tryz.isAgg299
  z35 := Tryz.sizeOf299
  v35 := Tryz.zeroValue299
  t36 := Tryz.underlying300
  a36 := Tryz.isAgg300
  z36 := Tryz.sizeOf300
  v36 := Tryz.zeroValue300
  t41 := Tryz.underlying123
  a41 := Tryz.isAgg123
  z41 := Tryz.sizeOf123
  v41 := Tryz.zeroValue123
  t44 := Tryz.underlying306
  a44 := Tryz.isAgg306
  z44 := Tryz.sizeOf306
  v44 := Tryz.zeroValue306
  t46 := Tryz.underlying308
  a46 := Tryz.isAgg308
  z46 := Tryz.sizeOf308
  v46 := Tryz.zeroValue308
  t53 := Tryz.underlying342
  a53 := Tryz.isAgg342
  z53 := Tryz.sizeOf342
  v53 := Tryz.zeroValue342
  t57 := Tryz.underlying72
  a57 := Tryz.isAgg72
  z57 := Tryz.sizeOf72
  v57 := Tryz.zeroValue72
  t63 := Tryz.underlying373
  a63 := Tryz.isAgg373
  z63 := Tryz.sizeOf373
  v63 := Tryz.zeroValue373
  t64 := Tryz.underlying374
  a64 := Tryz.isAgg374
  z64 := Tryz.sizeOf374
  v64 := Tryz.zeroValue374 }
end Go.Proofs
namespace Go.Proofs.YtgakninlhfkkmaaGreat.Sh
open Proofs
section
variable {h : Hp} {c : Cx}
theorem Rel.write2 {w' : World} {o b st : Nat} {x y : SObj} (R : Rel h c) (ho : h o = some x) (hρ : c.ρ o = some (b, st))
    (hsize : c.w.heap.size ≤ w'.heap.size) (hother : ∀ b', b' ≠ b → b' < c.w.heap.size → w'.heap[b']? = c.w.heap[b']?) (hroom : rm c.w b ≤ rm w' b) (hos : w'.os = c.w.os) (hout : w'.output = c.w.output)
    (hy : Ext c { c with w := w' } → ObjRel { c with w := w' } o y) : Rel (hset h o (some y)) { c with w := w' } ∧ Ext c { c with w := w' } := by
  have E : Ext c { c with w := w' } := by
    refine ⟨fun _ _ e => e, hsize, fun b' hb' hn => ⟨hn, ?_⟩, fun b' => ?_, hos, hout⟩
    · refine hother b' ?_ hb'
      rintro rfl
      exact hn ((R.own _).2 ⟨o, x, st, ho, hρ⟩)
    · by_cases e : b' = b
      · subst e; exact hroom
      · rcases Nat.lt_or_ge b' c.w.heap.size with hl | hl
        · simp [rm, hother b' e hl]
        · simp [rm, Array.getElem?_eq_none hl]
  refine ⟨⟨fun j z e => ?_, fun i j z z' b1 s1 s2 e1 e2 e3 e4 => ?_, fun b' => ?_⟩, E⟩
  · simp only [hset] at e
    split at e
    · subst_vars; cases e; exact hy E
    · rename_i hj
      refine (R.obj j z e).mono E fun b2 st2 e' => ?_
      obtain ⟨b3, st3, e3, hl⟩ := (R.obj j z e).block
      rw [e'] at e3; cases e3
      refine hother b2 ?_ hl
      rintro rfl
      exact hj (R.inj j o z x b2 st2 st e ho e' hρ)
  · have live : ∀ j z, hset h o (some y) j = some z → ∃ z0, h j = some z0 := fun j z e => by
      simp only [hset] at e
      split at e
      · subst_vars; exact ⟨x, ho⟩
      · exact ⟨z, e⟩
    obtain ⟨z0, g1⟩ := live i z e1
    obtain ⟨z1, g2⟩ := live j z' e2
    exact R.inj i j z0 z1 b1 s1 s2 g1 g2 e3 e4
  · rw [R.own b']
    constructor
    · rintro ⟨j, z, s, e1, e2⟩
      by_cases hj : j = o
      · subst hj; exact ⟨j, y, s, by simp [hset], e2⟩
      · exact ⟨j, z, s, by simp [hset, hj, e1], e2⟩
    · rintro ⟨j, z, s, e1, e2⟩
      simp only [hset] at e1
      split at e1
      · subst_vars; exact ⟨_, x, s, ho, e2⟩
      · exact ⟨j, z, s, e1, e2⟩
end
def sortI (l : List Int) : List Int := l.mergeSort fun x y => decide (x ≤ y)
theorem ints_of {c : Cx} : ∀ {l : List Int} {vs : List Value}, All2 (V c) (l.map intE) vs → vs = l.map (Value.int .i64)
  | [], _, h => by rw [h.nil_left]; rfl
  | a :: l, [], h => h.elim
  | a :: l, v :: vs, h => by
    have h1 := vint h.1
    rw [h1, ints_of h.2]; rfl
theorem ok197 : okFn Tryz.prog 197 = true := by unfold okFn; rw [Tryz.func197]; kernel_rfl
theorem d197 (l : List Int) (hl : l.length < 4611686018427387904) {H : Hp} {n o : Nat} {full : Bool} (hH : H o = some (.cells (l.map intE))) :
    SCall Tryz.prog 197 [.sl o 0 1 l.length full] H n (fun v h' n' => v = .tup [] ∧ h' = hset H o (some (.cells ((sortI l).map intE))) ∧ n' = n) := by
  refine ⟨ok197, fun c vs _ R F A => ?_⟩
  obtain ⟨u, rfl, hv⟩ := A.single
  rw [V] at hv
  obtain ⟨b, st, cap, hρ, rfl, hcap, _, hroom⟩ := hv
  obtain ⟨b', st', arr, e, vs, g1, g2, g3, g4, g5, _⟩ := R.obj o _ hH
  rw [hρ] at g1; cases g1
  have hvs := ints_of g4
  have hblk : b < c.w.heap.size := (Array.getElem?_eq_some_iff.1 g2).1
  have hget : ∀ j (hj : j < l.length), arr[st + j]? = some (.int .i64 l[j]) := fun j hj => g3 j _ (by rw [hvs]; simp [hj])
  have hHo : Go.Sort.Holds (Value.int .i64) c.w b (st + 0) l.toArray := fun j hj => by
    have hj' : j < l.length := by simpa using hj
    refine ⟨by simp [World.cell?, g2, hget j hj', hj'], by simp [World.frozen?, g2]⟩
  have HC := AnyM.slices_Sort_int Tryz.sortA b (st + 0) cap l c.w hHo hblk hl
  have HC' : Calls Tryz.prog 197 #[.slice (some ⟨b, st + 0, none⟩) l.length cap] c.w fun e w' => e = .returned (.tuple #[]) ∧ ∃ n os, w' = Go.Sort.grow (Go.Sort.putRow (Value.int .i64) (Go.Sort.ahead c.w n) b (st + 0) (sortI l).toArray) os := HC
  refine HC'.mono ?_
  rintro e w' ⟨rfl, k, os, rfl⟩
  have hlen : (sortI l).length = l.length := List.length_mergeSort _
  have hsz : (Go.Sort.grow (Go.Sort.putRow (Value.int .i64) (Go.Sort.ahead c.w k) b (st + 0) (sortI l).toArray) os).heap = (c.w.heap.modify b (Go.Sort.onCells (Go.Sort.putCells (Value.int .i64) (st + 0) (sortI l).toArray))) ++ os := rfl
  have hnew : (Go.Sort.grow (Go.Sort.putRow (Value.int .i64) (Go.Sort.ahead c.w k) b (st + 0) (sortI l).toArray) os).heap[b]? = some (.cells (Go.Sort.putCells (Value.int .i64) (st + 0) (sortI l).toArray arr) e (0, 0)) := by
    rw [hsz, Array.getElem?_append_left (by simpa using hblk), Array.getElem?_modify, if_pos rfl, g2]; rfl
  obtain ⟨R', X'⟩ := R.write2 (w' := Go.Sort.grow (Go.Sort.putRow (Value.int .i64) (Go.Sort.ahead c.w k) b (st + 0) (sortI l).toArray) os) (y := .cells ((sortI l).map intE)) hH hρ
    (by rw [hsz]; simp) (fun b' hb hl' => by rw [hsz, Array.getElem?_append_left (by simpa using hl'), Array.getElem?_modify, if_neg (Ne.symm hb)])
    (by unfold rm; rw [hnew, g2]; simp [Go.Sort.putCells]) rfl rfl (fun X => by
      refine ⟨b, st, _, e, (sortI l).map (Value.int .i64), hρ, hnew, fun i x hi => ?_, ?_, fun x hx => ?_, Ty.none⟩
      · simp only [List.getElem?_map, Option.map_eq_some_iff] at hi
        obtain ⟨z, hz, rfl⟩ := hi
        have hil := (List.getElem?_eq_some_iff.1 hz).1
        have := hget i (by omega)
        simp only [Go.Sort.putCells, Array.getElem?_mapIdx, this, Option.map_some, Nat.add_zero, List.size_toArray]
        rw [if_pos ⟨by omega, by omega⟩, show st + i - st = i by omega]
        simp [hil] at hz ⊢
        exact hz
      · exact All2.map (R := fun a b => a = b) (fun a b e => by subst e; simp [V]) (by
          have : ∀ l : List Int, All2 (fun a b => a = b) l l := fun l => by induction l with | nil => trivial | cons a l ih => exact ⟨rfl, ih⟩
          exact this _)
      · obtain ⟨z, _, rfl⟩ := List.mem_map.1 hx; rfl)
  exact ⟨.tuple #[], .tup [], _, n, _, rfl, ⟨rfl, rfl, rfl⟩, rfl, by simp [V, VL], R', F, ⟨X', Nat.le_refl _, fun _ _ => rfl⟩⟩
theorem c197n (z : Nat) (full : Bool) : PC 197 [.imm z [] full] (.tup []) := by
  intro h n
  refine ⟨ok197, fun c vs _ R F A => ?_⟩
  obtain ⟨u, rfl, hv⟩ := A.single
  rw [V] at hv
  have fin : ∀ (p : Option Addr) (cap : Nat), Calls Tryz.prog 197 #[.slice p 0 cap] c.w fun e w' => e = .returned (.tuple #[]) ∧ w' = c.w := fun p cap => AnyM.slices_Sort_int_none Tryz.sortA p cap c.w
  have key : ∃ p cap, u = .slice p 0 cap := by
    rcases hv with ⟨_, rfl⟩ | ⟨a, cap, _, rfl, _⟩
    · exact ⟨_, _, rfl⟩
    · exact ⟨_, _, rfl⟩
  obtain ⟨p, cap, rfl⟩ := key
  refine (fin p cap).mono ?_
  rintro e w' ⟨rfl, rfl⟩
  exact ⟨.tuple #[], .tup [], h, n, c, rfl, ⟨rfl, rfl, rfl⟩, rfl, by simp [V, VL], R, F, Adv.refl n c⟩
set_option maxRecDepth 10000
def kvT (l : List Int) : List (SV × SV) := l.map fun x => (intE x, .bool true)
theorem findS_no {x : Int} : ∀ {l : List Int} (i : Nat), x ∉ l → findS (intE x) (kvT l) i = some none
  | [], i, _ => rfl
  | a :: l, i, h => by
    simp only [List.mem_cons, not_or] at h
    have : (x == a) = false := by simpa using h.1
    simp only [kvT, List.map_cons, findS, keyEq, if_true, this]
    exact findS_no (i + 1) h.2
theorem findS_yes {x : Int} : ∀ {l : List Int} (i : Nat), x ∈ l → ∃ j, findS (intE x) (kvT l) i = some (some (i + j, .bool true)) ∧ l[j]? = some x
  | a :: l, i, h => by
    by_cases e : x = a
    · subst e
      exact ⟨0, by simp [kvT, findS, keyEq], by simp⟩
    · have h' : x ∈ l := by rcases List.mem_cons.1 h with h | h; exact absurd h e; exact h
      obtain ⟨j, h1, h2⟩ := findS_yes (i + 1) h'
      have : (x == a) = false := by simpa using e
      refine ⟨j + 1, ?_, by simpa using h2⟩
      simp only [kvT, List.map_cons, findS, keyEq, if_true, this]
      rw [show i + (j + 1) = i + 1 + j by omega]
      exact h1
theorem setAt_same {x : Int} {l : List Int} {j : Nat} (h : l[j]? = some x) : setAt (kvT l) j (intE x) (.bool true) = kvT l := by
  unfold setAt kvT
  apply List.ext_getElem?
  intro i
  simp only [List.getElem?_modify, List.getElem?_map]
  by_cases e : j = i
  · subst e; simp [h]
  · cases l[i]? <;> simp [e]
def dedup (l : List Int) : List Int := l.foldl (fun out x => if x ∈ out then out else out ++ [x]) []
theorem dedup_snoc (l : List Int) (k : Nat) (h : k < l.length) : dedup (l.take (k + 1)) = if l[k] ∈ dedup (l.take k) then dedup (l.take k) else dedup (l.take k) ++ [l[k]] := by
  unfold dedup
  rw [List.take_succ_eq_append_getElem h, List.foldl_append]; rfl
theorem dedup_len (l : List Int) : ∀ k, k ≤ l.length → (dedup (l.take k)).length ≤ k
  | 0, _ => by simp [dedup]
  | k + 1, h => by
    rw [dedup_snoc l k h]
    have := dedup_len l k (by omega)
    split
    · omega
    · simp; omega
theorem dedup_mem (l : List Int) (x : Int) : x ∈ dedup l ↔ x ∈ l := by
  have gen : ∀ k, k ≤ l.length → (x ∈ dedup (l.take k) ↔ x ∈ l.take k) := by
    intro k
    induction k with
    | zero => simp [dedup]
    | succ k ih =>
      intro h
      have ih := ih (by omega)
      rw [dedup_snoc l k h, List.take_succ_eq_append_getElem h]
      split
      · rename_i hm
        simp only [List.mem_append, List.mem_singleton]
        constructor
        · intro g; exact .inl (ih.1 g)
        · rintro (g | rfl)
          · exact ih.2 g
          · exact hm
      · simp only [List.mem_append, List.mem_singleton, ih]
  have := gen l.length (Nat.le_refl _)
  simpa using this
theorem SC.use {E : Env} {f : FuncId} {args : List SV} {h : Hp} {n : Nat} {Q K : SV → Hp → Nat → Prop} (H : SCall Tryz.prog f args h n Q) (hk : ∀ v h' n', Q v h' n' → K v h' n') : SCallE E Tryz.prog f args h n K := SCallE.lift (H.mono hk)
theorem flat_int : ∀ l : List Int, (l.map intE).flatMap SV.cells = l.map intE
  | [] => rfl
  | a :: l => by simp [SV.cells, flat_int l]
theorem c179 (l : List Int) (hl : l.length ≤ 1048576) : PC 179 [.imm 1 [.imm 1 (l.map intE) false] false] (.imm 1 ((sortI (dedup l)).map intE) false) := by
  intro h n
  refine go Tryz.func179 rfl (by kernel_rfl) (by kernel_rfl) (by simp [go_sem]) fun ho => ?_
  simp [go_sem]
  have hn0 : h n = none := ho.none (Nat.le_refl n)
  refine goloop 1 (α := Nat × Option Nat) (fun q => [(3, .map n), (4, AccV 1 q.2 ((dedup (l.take (if q.1 = 0 then 0 else l.length))).map intE)), (10, .imm 1 [.imm 1 (l.map intE) false] false), (11, intE 1), (12, intE q.1)])
    (fun q => AccH q.2 ((dedup (l.take (if q.1 = 0 then 0 else l.length))).map intE) (hset h n (some (.map (kvT (dedup (l.take (if q.1 = 0 then 0 else l.length))))))))
    (fun q m => q.1 ≤ 1 ∧ n < m ∧ AccI (n + 1) m 1 q.2 ((dedup (l.take (if q.1 = 0 then 0 else l.length))).map intE)) (fun q => 1 - q.1) (0, none) ?_ ?_ ?_ ?_
  · simp [dedup]; exact AccI.nil _ _ _
  · simp [look, dedup, AccV]
  · simp [dedup, kvT, AccH]
  rintro ⟨k, o⟩ m ⟨hk, hnm, hA⟩
  dsimp only at hk hA ⊢
  by_cases k0 : k = 0
  · subst k0
    simp only [if_true, List.take_zero] at hA ⊢
    simp [go_sem]
    refine goloop 1 (α := Nat × Option Nat) (fun q => [(3, .map n), (4, AccV 1 q.2 ((dedup (l.take q.1)).map intE)), (10, .imm 1 [.imm 1 (l.map intE) false] false), (11, intE 1), (12, intE 0), (16, .imm 1 (l.map intE) false), (17, intE l.length), (18, intE q.1)])
      (fun q => AccH q.2 ((dedup (l.take q.1)).map intE) (hset h n (some (.map (kvT (dedup (l.take q.1)))))))
      (fun q m => q.1 ≤ l.length ∧ n < m ∧ AccI (n + 1) m 1 q.2 ((dedup (l.take q.1)).map intE)) (fun q => l.length - q.1) (0, o) ?_ ?_ ?_ ?_
    · exact ⟨Nat.zero_le _, hnm, by simpa using hA⟩
    · simp [look]
    · exact look_same
    rintro ⟨i, o⟩ m ⟨hi, hnm, hA⟩
    dsimp only at hi hA ⊢
    have hdl := dedup_len l i hi
    have hon : ∀ j, o = some j → n < j ∧ j < m := fun j e => by have := hA.lt j e; omega
    by_cases hlt : i < l.length
    · have w1 : IntKind.i64.wrap ((i : Int) + 1) = ((i + 1 : Nat) : Int) := by rw [wr64] <;> omega
      have hsn := dedup_snoc l i hlt
      obtain ⟨x, hx⟩ : ∃ x, l[i] = x := ⟨_, rfl⟩
      rw [hx] at hsn
      generalize hout : dedup (l.take i) = out at hA hsn hdl ⊢
      have hmap : AccH o (out.map intE) (hset h n (some (.map (kvT out)))) n = some (.map (kvT out)) := by
        cases o with
        | none => simp [AccH, hset]
        | some j => have := hon j rfl; simp [AccH, hset]; omega
      by_cases hmem : x ∈ out
      · obtain ⟨j, h1, h2⟩ := findS_yes 0 hmem
        rw [if_pos hmem] at hsn
        simp [go_sem, hlt, hx, hmap, h1, keyOk, w1, -Int.natCast_add]
        exact ⟨i + 1, by omega, o, ⟨⟨by omega, hnm, by rw [hsn]; exact hA⟩, by rw [hsn]; exact ⟨Fz.same, Fz.same⟩, by rw [hsn]; exact look_same⟩⟩
      · have h1 := findS_no 0 hmem
        rw [if_neg hmem] at hsn
        have hap := fun (H : Hp) (k p : Nat) (e1 : H k = some (.cells (intE x).cells)) (e2 : ∀ j, o = some j → H j = some (.cells ((out.map intE).flatMap SV.cells))) =>
          app1g (P := Tryz.prog) (H := H) (t := 61) (t2 := 61) (el := 3) (by simp [go_sem]) (by simp [go_sem]) (by simp [go_sem]) (by simp) (by simp [go_sem]) (by simp [go_sem]) (by simp [go_sem]) (by simp; omega) hA (e := intE x) rfl e1 e2 p
        simp [go_sem, hlt, hx, hmap, h1, keyOk, w1, -Int.natCast_add]
        rw [hap _ _ _ (by simp [hset_at, SV.cells]) (by
          intro j e
          have := hon j e
          subst e
          simp only [hset, AccH]
          grind)]
        simp [go_sem, -Int.natCast_add]
        refine ⟨i + 1, by omega, some (m + 1), ⟨⟨by omega, by omega, ?_⟩, ⟨?_, ?_⟩, ?_⟩⟩
        · rw [hsn, List.map_append]; exact hA.push rfl rfl (by omega) (by omega)
        · rw [hsn]; simp [AccV, Fz.same]
        · exact Fz.same
        · rw [hsn]
          intro j y
          have hoj := ho j y
          cases o with
          | none => simp only [AccH, hset, kvT, List.map_append, List.map_cons, List.map_nil, Option.map_none, List.flatMap_append, List.flatMap_cons, List.flatMap_nil, List.append_nil, flat_int, SV.cells]; grind
          | some q => have := hon q rfl; simp only [AccH, hset, kvT, List.map_append, List.map_cons, List.map_nil, Option.map_some, List.flatMap_append, List.flatMap_cons, List.flatMap_nil, List.append_nil, flat_int, SV.cells]; grind
    · have : i = l.length := by omega
      subst this
      simp [go_sem]
      have w1 : IntKind.i64.wrap 1 = 1 := by decide
      exact ⟨1, by omega, o, ⟨by omega, hnm, by simpa using hA⟩, ⟨by simp [Fz.same], by simp [w1, Fz.same]⟩, by simp⟩
  · have : k = 1 := by omega
    subst this
    simp [go_sem]
    simp only [Nat.one_ne_zero, if_false, List.take_length] at hA
    cases o with
    | none =>
      have he := hA.none rfl
      simp only [List.map_eq_nil_iff] at he
      simp only [AccV]
      refine (c197n 0 true).use ?_
      simp [go_sem, AccH]
      have hs : sortI (dedup l) = [] := by rw [he]; simp [sortI]
      rw [hs]
      exact ret_nil ho (hset_old ho (Nat.le_refl _) look_same) (by simp) rfl
    | some j =>
      have hj := hA.lt j rfl
      simp only [AccV, List.length_map]
      have hdl : (dedup l).length ≤ l.length := by have := dedup_len l l.length (Nat.le_refl _); simpa using this
      refine SC.use (d197 (dedup l) (by omega) (by simp [AccH, hset, flat_int])) ?_
      rintro v h' n' ⟨rfl, rfl, rfl⟩
      simp [go_sem]
      have hlen : (sortI (dedup l)).length = (dedup l).length := List.length_mergeSort _
      refine ret_sl intEnc (l := sortI (dedup l)) (full := false) ho (fun o x e => ?_) (show n ≤ j by omega) (by rw [hlen]) (by simp [hset, flat_int])
      have := ho o x e
      simp only [hset, AccH]
      grind
theorem YCallE.mono {E : Env} {P : Program} {l : Nat} {args : List SV} {h : Hp} {n : Nat} {Q Q' : SV → Hp → Nat → Prop} (H : YCallE E P l args h n Q) (hq : ∀ v h' n', Q v h' n' → Q' v h' n') : YCallE E P l args h n Q' := fun c vs I R F A => by
  obtain ⟨a, b, c', d, e, g⟩ := H c vs I R F A
  exact ⟨a, b, c', d, e, g.mono fun _ _ ⟨u, v, h', n', c', e, q, r⟩ => ⟨u, v, h', n', c', e, hq _ _ _ q, r⟩⟩
def WalkQ (J : (Nat → Prop) → Hp → Nat → Prop) (Jx : (Nat → Prop) → Hp → Nat → Prop) (D : Nat → Prop) (h : Hp) (m : Nat) : SV → Hp → Nat → Prop := fun v h' m' =>
  m ≤ m' ∧ ∃ D', (∀ o, D' o → D o ∨ (m ≤ o ∧ o < m')) ∧ (∀ o, ¬ D o → o < m → h' o = h o) ∧ ((v = .bool true ∧ J D' h' m') ∨ (v = .bool false ∧ Jx D' h' m'))
structure YJ (E : Env) (l : Nat) {X : Type} (enc : X → List SV) (xs : List X) (J : Nat → (Nat → Prop) → Hp → Nat → Prop) (Jx : (Nat → Prop) → Hp → Nat → Prop) : Prop where
  step : ∀ k x D h m, xs[k]? = some x → J k D h m → YCallE E Tryz.prog l (enc x) h m (WalkQ (J (k + 1)) Jx D h m)
  keep : ∀ k D h m h' m', J k D h m → m ≤ m' → (∀ o, D o → h' o = h o) → J k D h' m'
  lt : ∀ k D h m, J k D h m → ∀ o, D o → o < m
def Seg {X : Type} (xs : List X) (k : Nat) (L : List X) : Prop := ∃ rest, xs.drop k = L ++ rest
theorem Seg.app {X : Type} {xs A B : List X} {k : Nat} (H : Seg xs k (A ++ B)) : Seg xs k A ∧ Seg xs (k + A.length) B := by
  obtain ⟨r, h⟩ := H
  refine ⟨⟨B ++ r, by rw [h, List.append_assoc]⟩, ⟨r, ?_⟩⟩
  rw [← List.drop_drop, h, List.append_assoc, List.drop_left]
theorem Seg.head {X : Type} {xs L : List X} {x : X} {k : Nat} (H : Seg xs k (x :: L)) : xs[k]? = some x ∧ Seg xs (k + 1) L := by
  obtain ⟨r, h⟩ := H
  have h1 : (xs.drop k)[0]? = some x := by rw [h]; rfl
  refine ⟨by simpa using h1, r, ?_⟩
  rw [← List.drop_drop, h]; rfl
section
variable {E : Env} {yl : Nat} {X : Type} {enc : X → List SV} {xs : List X} {J : Nat → (Nat → Prop) → Hp → Nat → Prop} {Jx : (Nat → Prop) → Hp → Nat → Prop}
structure Mid (J : Nat → (Nat → Prop) → Hp → Nat → Prop) (D : Nat → Prop) (h : Hp) (m : Nat) (own : List (Nat × SObj)) (cnt : Nat) (D2 : Nat → Prop) (h2 : Hp) (m2 : Nat) : Prop where
  lt : m ≤ m2
  j : J cnt D2 h2 m2
  own : ∀ p ∈ own, h2 p.1 = some p.2 ∧ m ≤ p.1 ∧ p.1 < m2 ∧ ¬ D2 p.1
  sub : ∀ o, D2 o → D o ∨ (m ≤ o ∧ o < m2)
  old : ∀ o, ¬ D o → o < m → h2 o = h o
theorem Mid.keep (Y : YJ E yl enc xs J Jx) {D : Nat → Prop} {h : Hp} {m : Nat} {own : List (Nat × SObj)} {cnt : Nat} {D2 : Nat → Prop} {h2 : Hp} {m2 : Nat} (M : Mid J D h m own cnt D2 h2 m2) {hb : Hp} {mb : Nat} (hm : m2 ≤ mb) (hh : ∀ o, o < m2 → hb o = h2 o) : J cnt D2 hb mb :=
  Y.keep _ _ _ _ _ _ M.j hm fun o g => hh o (Y.lt _ _ _ _ M.j o g)
theorem Mid.step {D : Nat → Prop} {h : Hp} {m : Nat} {own : List (Nat × SObj)} {cnt cnt' : Nat} {D2 : Nat → Prop} {h2 : Hp} {m2 : Nat} (M : Mid J D h m own cnt D2 h2 m2) {hb : Hp} {mb : Nat} (hm : m2 ≤ mb) (hh : ∀ o, o < m2 → hb o = h2 o)
    {v : SV} {h3 : Hp} {m3 : Nat} (W : WalkQ (J cnt') Jx D2 hb mb v h3 m3) : (v = .bool true ∧ ∃ D3, Mid J D h m own cnt' D3 h3 m3) ∨ (v = .bool false ∧ WalkQ (J cnt') Jx D h m v h3 m3) := by
  obtain ⟨hm3, D3, hDD, hold, hv⟩ := W
  have h1 : ∀ o, D3 o → D o ∨ (m ≤ o ∧ o < m3) := fun o g => by
    rcases hDD o g with g | g
    · rcases M.sub o g with g | g
      · exact .inl g
      · exact .inr (by omega)
    · have := M.lt; exact .inr (by omega)
  have h4 : ∀ o, ¬ D o → o < m → h3 o = h o := fun o g1 g2 => by
    have hn : ¬ D2 o := fun g => by rcases M.sub o g with g | g; exact g1 g; omega
    have := M.lt
    rw [hold o hn (by omega), hh o (by omega), M.old o g1 g2]
  have := M.lt
  rcases hv with ⟨rfl, hj⟩ | ⟨rfl, hj⟩
  · refine .inl ⟨rfl, D3, by omega, hj, fun p hp => ?_, h1, h4⟩
    obtain ⟨g1, g2, g3, g4⟩ := M.own p hp
    refine ⟨by rw [hold _ g4 (by omega), hh _ g3, g1], g2, by omega, fun g => ?_⟩
    rcases hDD _ g with g | g
    · exact g4 g
    · omega
  · exact .inr ⟨rfl, by omega, D3, h1, h4, .inr ⟨rfl, hj⟩⟩
theorem Mid.done {D : Nat → Prop} {h : Hp} {m : Nat} {own : List (Nat × SObj)} {cnt : Nat} {D2 : Nat → Prop} {h2 : Hp} {m2 : Nat} (M : Mid J D h m own cnt D2 h2 m2) : WalkQ (J cnt) Jx D h m (.bool true) h2 m2 :=
  ⟨M.lt, D2, M.sub, M.old, .inl ⟨rfl, M.j⟩⟩
theorem Mid.more (Y : YJ E yl enc xs J Jx) {D : Nat → Prop} {h : Hp} {m : Nat} {own : List (Nat × SObj)} {cnt : Nat} {D2 : Nat → Prop} {h2 : Hp} {m2 : Nat} (M : Mid J D h m own cnt D2 h2 m2) {hb : Hp} {mb : Nat} (hm : m2 ≤ mb) (hh : ∀ o, o < m2 → hb o = h2 o) : Mid J D h m own cnt D2 hb mb :=
  ⟨Nat.le_trans M.lt hm, M.keep Y hm hh, fun p hp => by obtain ⟨g1, g2, g3, g4⟩ := M.own p hp; exact ⟨by rw [hh _ g3, g1], g2, by omega, g4⟩, fun o g => by rcases M.sub o g with g | g; exact .inl g; exact .inr (by omega), fun o g1 g2 => by have := M.lt; rw [hh o (by omega), M.old o g1 g2]⟩
theorem Mid.add {D : Nat → Prop} {h : Hp} {m : Nat} {own : List (Nat × SObj)} {cnt : Nat} {D2 : Nat → Prop} {h2 : Hp} {m2 : Nat} (M : Mid J D h m own cnt D2 h2 m2) {j : Nat} {y : SObj} (h1 : h2 j = some y) (h3 : m ≤ j) (h4 : j < m2) (h5 : ¬ D2 j) : Mid J D h m ((j, y) :: own) cnt D2 h2 m2 :=
  ⟨M.lt, M.j, fun p hp => by rcases List.mem_cons.1 hp with rfl | hp; exact ⟨h1, h3, h4, h5⟩; exact M.own p hp, M.sub, M.old⟩
theorem Mid.drop {D : Nat → Prop} {h : Hp} {m : Nat} {own : List (Nat × SObj)} {p : Nat × SObj} {cnt : Nat} {D2 : Nat → Prop} {h2 : Hp} {m2 : Nat} (M : Mid J D h m (p :: own) cnt D2 h2 m2) : Mid J D h m own cnt D2 h2 m2 :=
  ⟨M.lt, M.j, fun q hq => M.own q (List.mem_cons_of_mem _ hq), M.sub, M.old⟩
theorem Mid.any {cnt cnt' : Nat} {D : Nat → Prop} {h : Hp} {m : Nat} {h2 : Hp} {m2 : Nat} (H : WalkQ (J cnt) Jx D h m (.bool false) h2 m2) : WalkQ (J cnt') Jx D h m (.bool false) h2 m2 := by
  obtain ⟨a, D', b, c, d | d⟩ := H
  · exact absurd d.1 (by simp)
  · exact ⟨a, D', b, c, .inr d⟩
end
structure Place where
  body : Bool
  note : Bool
  tables : Int
def Place.enc (p : Place) : SV := .agg [.bool p.body, .bool p.note, intE p.tables]
structure Fl where
  id : Int
  items : List Item
  at_ : Place
def Fl.enc (f : Fl) : List SV := [intE f.id, .agg [itemsE f.items, .bool f.at_.body, .bool f.at_.note, intE f.at_.tables]]
def Place.inNote (p : Place) : Place := ⟨false, true, p.tables⟩
def Place.inTable (p : Place) : Place := ⟨false, p.note, IntKind.i64.wrap (p.tables + 1)⟩
mutual
def Item.fl (p : Place) : Item → List Fl
  | .mk k _ i _ _ f r => if k = 6 then ⟨i, f, p.inNote⟩ :: Item.flL p.inNote f else if k = 7 then Row.flL p.inTable r else []
def Item.flL (p : Place) : List Item → List Fl
  | [] => []
  | x :: l => Item.fl p x ++ Item.flL p l
def Row.fl (p : Place) : Row → List Fl
  | .mk _ c => Cell.flL p c
def Row.flL (p : Place) : List Row → List Fl
  | [] => []
  | x :: l => Row.fl p x ++ Row.flL p l
def Cell.fl (p : Place) : Cell → List Fl
  | .mk i _ f => ⟨i, f, p⟩ :: Item.flL p f
def Cell.flL (p : Place) : List Cell → List Fl
  | [] => []
  | x :: l => Cell.fl p x ++ Cell.flL p l
end
def flowsOf (id : Int) (l : List Item) (p : Place) : List Fl := ⟨id, l, p⟩ :: Item.flL p l
theorem Item.flL_take (p : Place) : ∀ (l : List Item) (i : Nat) (h : i < l.length), ∃ r, Item.flL p l = Item.flL p (l.take i) ++ (Item.fl p l[i] ++ r) ∧ Item.flL p (l.take (i + 1)) = Item.flL p (l.take i) ++ Item.fl p l[i]
  | x :: l, 0, _ => ⟨Item.flL p l, by simp [Item.flL]⟩
  | x :: l, i + 1, h => by
    obtain ⟨r, h1, h2⟩ := Item.flL_take p l i (by simpa using h)
    exact ⟨r, by simp only [Item.flL, List.take_succ_cons, List.getElem_cons_succ]; rw [h1, h2]; simp⟩
theorem Row.flL_take (p : Place) : ∀ (l : List Row) (i : Nat) (h : i < l.length), ∃ r, Row.flL p l = Row.flL p (l.take i) ++ (Row.fl p l[i] ++ r) ∧ Row.flL p (l.take (i + 1)) = Row.flL p (l.take i) ++ Row.fl p l[i]
  | x :: l, 0, _ => ⟨Row.flL p l, by simp [Row.flL]⟩
  | x :: l, i + 1, h => by
    obtain ⟨r, h1, h2⟩ := Row.flL_take p l i (by simpa using h)
    exact ⟨r, by simp only [Row.flL, List.take_succ_cons, List.getElem_cons_succ]; rw [h1, h2]; simp⟩
theorem Cell.flL_take (p : Place) : ∀ (l : List Cell) (i : Nat) (h : i < l.length), ∃ r, Cell.flL p l = Cell.flL p (l.take i) ++ (Cell.fl p l[i] ++ r) ∧ Cell.flL p (l.take (i + 1)) = Cell.flL p (l.take i) ++ Cell.fl p l[i]
  | x :: l, 0, _ => ⟨Cell.flL p l, by simp [Cell.flL]⟩
  | x :: l, i + 1, h => by
    obtain ⟨r, h1, h2⟩ := Cell.flL_take p l i (by simpa using h)
    exact ⟨r, by simp only [Cell.flL, List.take_succ_cons, List.getElem_cons_succ]; rw [h1, h2]; simp⟩
theorem flow_size {l : List Item} {x : Item} (h : x ∈ l) : SizeOf.sizeOf x.flow < SizeOf.sizeOf l := by
  have := List.sizeOf_lt_of_mem h
  cases x; simp only [Item.flow, Item.mk.sizeOf_spec] at *; omega
theorem cell_size {l : List Item} {x : Item} {r : Row} {c : Cell} (h : x ∈ l) (hr : r ∈ x.rows) (hc : c ∈ r.cells) : SizeOf.sizeOf c.flow < SizeOf.sizeOf l := by
  have h1 := List.sizeOf_lt_of_mem h
  have h2 := List.sizeOf_lt_of_mem hr
  have h3 := List.sizeOf_lt_of_mem hc
  cases x; cases r; cases c
  simp only [Item.rows, Row.cells, Cell.flow, Item.mk.sizeOf_spec, Row.mk.sizeOf_spec, Cell.mk.sizeOf_spec] at *; omega
section
variable {E : Env} {yl : Nat} {xs : List Fl} {J : Nat → (Nat → Prop) → Hp → Nat → Prop} {Jx : (Nat → Prop) → Hp → Nat → Prop}
theorem c248 (Y : YJ E yl Fl.enc xs J Jx) : ∀ (N : Nat) (l : List Item), SizeOf.sizeOf l < N → l.length ≤ 1048576 → Item.sizedL l → ∀ (id : Int) (p : Place) (k : Nat) (D : Nat → Prop) (h : Hp) (m : Nat), J k D h m → Seg xs k (flowsOf id l p) →
    SCallE E Tryz.prog 248 [intE id, itemsE l, p.enc, .fn (.yield yl) [] []] h m (WalkQ (J (k + (flowsOf id l p).length)) Jx D h m) := by
  intro N
  induction N with
  | zero => intro l h; omega
  | succ N ih =>
  intro l hN hl hs id p k D h m hJ hseg
  obtain ⟨hx0, hseg'⟩ := hseg.head
  refine go Tryz.func248 rfl (by kernel_rfl) (by kernel_rfl) (by simp [go_sem]) fun ho => ?_
  simp [go_sem, Place.enc, hset_at]
  have hD : ∀ o, D o → o < m := Y.lt k D h m hJ
  have hJ1 : J k D (hset h m (some (.cells [.bool p.body, .bool p.note, intE p.tables]))) (m + 1) := Y.keep k D h m _ _ hJ (by omega) fun o hDo => hset_ne _ _ (by have := hD o hDo; omega)
  have M0 : Mid J D h m [(m, .cells [.bool p.body, .bool p.note, intE p.tables])] k D (hset h m (some (.cells [.bool p.body, .bool p.note, intE p.tables]))) (m + 1) :=
    ⟨by omega, hJ1, by simp [hset_at]; exact fun g => absurd (hD m g) (by omega), fun o g => .inl g, fun o _ g => hset_ne _ _ (by omega)⟩
  refine YCallE.mono (Y.step k _ D _ _ hx0 hJ1) ?_
  intro v h1 m1 W
  rcases M0.step (Nat.le_refl _) (fun _ _ => rfl) W with ⟨rfl, D1, M1⟩ | ⟨rfl, hX⟩
  · simp [go_sem]
    refine goloop 1 (α := Nat × (Nat → Prop) × Hp) (fun q => [(3, .fn (.yield yl) [] []), (6, .ptr m 0), (22, itemsE l), (23, intE l.length), (24, intE q.1)]) (fun q => q.2.2)
      (fun q m' => q.1 ≤ l.length ∧ Mid J D h m [(m, .cells [.bool p.body, .bool p.note, intE p.tables])] (k + 1 + (Item.flL p (l.take q.1)).length) q.2.1 q.2.2 m') (fun q => l.length - q.1) (0, D1, h1) ?_ ?_ look_same ?_
    · exact ⟨Nat.zero_le _, by simpa [Item.flL] using M1⟩
    · simp [look]
    rintro ⟨i, D2, h2⟩ m2 ⟨hi, M2⟩
    dsimp only at hi M2 ⊢
    obtain ⟨hp2, _, hne, _⟩ := M2.own _ (List.mem_singleton.2 rfl)
    dsimp only at hp2 hne
    have hne' : m ≠ m2 := by omega
    by_cases hlt : i < l.length
    · have w1 : IntKind.i64.wrap ((i : Int) + 1) = ((i + 1 : Nat) : Int) := by rw [wr64] <;> omega
      obtain ⟨x, hx⟩ : ∃ x, l[i] = x := ⟨_, rfl⟩
      have hxm : x ∈ l := by rw [← hx]; exact List.getElem_mem hlt
      have hxs := Item.sizedL_mem hs x hxm
      obtain ⟨r, hfl1, hfl2⟩ := Item.flL_take p l i hlt
      rw [hx] at hfl1 hfl2
      have hcnt : k + 1 + (Item.flL p (l.take (i + 1))).length = k + 1 + (Item.flL p (l.take i)).length + (Item.fl p x).length := by rw [hfl2]; simp; omega
      have hsegx : Seg xs (k + 1 + (Item.flL p (l.take i)).length) (Item.fl p x) := by rw [hfl1] at hseg'; exact (hseg'.app).2.app.1
      have hb2 : ∀ y z, ∀ o, o < m2 → (hset (hset h2 m2 y) m2 z) o = h2 o := fun y z o g => by rw [hset_ne _ _ (by omega), hset_ne _ _ (by omega)]
      by_cases k6 : x.kind = 6
      · have hfx : Item.fl p x = flowsOf x.id x.flow p.inNote := by cases x; simp only [Item.kind] at k6; simp [Item.fl, k6, flowsOf, Item.id, Item.flow]
        have hxf : x.flow.length ≤ 1048576 ∧ Item.sizedL x.flow := by cases x; rw [Item.sized] at hxs; exact ⟨hxs.2.2.1, hxs.2.2.2.2.1⟩
        simp [go_sem, hlt, hx, Item.enc_eq, hset_at, hset_ne, k6, hp2, hne']
        refine SCallE.mono (ih x.flow (by have := flow_size hxm; omega) hxf.1 hxf.2 x.id p.inNote _ D2 _ _ (M2.keep Y (Nat.le_succ m2) (hb2 _ _)) (by rw [← hfx]; exact hsegx)) ?_
        intro v h3 m3 W
        rcases M2.step (Nat.le_succ m2) (hb2 _ _) W with ⟨rfl, D3, M3⟩ | ⟨rfl, hX⟩
        · simp [go_sem, w1, -Int.natCast_add]
          exact ⟨i + 1, by omega, D3, h3, ⟨by omega, by rw [hcnt, hfx]; exact M3⟩, Fz.same, look_same⟩
        · simp [go_sem]
          exact .inl (Mid.any hX)
      · by_cases k7 : x.kind = 7
        · simp [go_sem, hlt, hx, Item.enc_eq, hset_at, k7]
          have hfx : Item.fl p x = Row.flL p.inTable x.rows := by cases x; simp only [Item.kind] at k6 k7; simp [Item.fl, k7, Item.rows]
          have hxr : x.rows.length ≤ 1048576 ∧ Row.sizedL x.rows := by cases x; rw [Item.sized] at hxs; exact ⟨hxs.2.2.2.1, hxs.2.2.2.2.2⟩
          rw [hfx] at hsegx hcnt
          generalize hk' : k + 1 + (Item.flL p (l.take i)).length = k' at hsegx hcnt M2
          refine goloop 1 (α := Nat × (Nat → Prop) × Hp) (fun q => [(3, .fn (.yield yl) [] []), (6, .ptr m 0), (22, itemsE l), (23, intE l.length), (24, intE i), (45, rowsE x.rows), (46, intE x.rows.length), (47, intE q.1)]) (fun q => q.2.2)
            (fun q m' => q.1 ≤ x.rows.length ∧ Mid J D h m [(m, .cells [.bool p.body, .bool p.note, intE p.tables])] (k' + (Row.flL p.inTable (x.rows.take q.1)).length) q.2.1 q.2.2 m') (fun q => x.rows.length - q.1) (0, D2, _) ?_ ?_ look_same ?_
          · exact ⟨Nat.zero_le _, by dsimp only; rw [List.take_zero, Row.flL]; exact M2.more Y (Nat.le_succ m2) (hb2 _ _)⟩
          · simp [look]
          clear hb2
          rintro ⟨j, D3, h3⟩ m3 ⟨hj, M3⟩
          dsimp only at hj M3 ⊢
          obtain ⟨hp3, _, hne3, _⟩ := M3.own _ (List.mem_singleton.2 rfl)
          dsimp only at hp3 hne3
          have hne3' : m ≠ m3 := by omega
          by_cases hjt : j < x.rows.length
          · have w2 : IntKind.i64.wrap ((j : Int) + 1) = ((j + 1 : Nat) : Int) := by rw [wr64] <;> omega
            obtain ⟨y, hy⟩ : ∃ y, x.rows[j] = y := ⟨_, rfl⟩
            have hym : y ∈ x.rows := by rw [← hy]; exact List.getElem_mem hjt
            have hys := Row.sizedL_mem hxr.2 y hym
            obtain ⟨r2, hr1, hr2⟩ := Row.flL_take p.inTable x.rows j hjt
            rw [hy] at hr1 hr2
            have hcnt2 : k' + (Row.flL p.inTable (x.rows.take (j + 1))).length = k' + (Row.flL p.inTable (x.rows.take j)).length + (Row.fl p.inTable y).length := by rw [hr2]; simp; omega
            have hsegy : Seg xs (k' + (Row.flL p.inTable (x.rows.take j)).length) (Row.fl p.inTable y) := by rw [hr1] at hsegx; exact (hsegx.app).2.app.1
            have hfy : Row.fl p.inTable y = Cell.flL p.inTable y.cells := by cases y; simp [Row.fl, Row.cells]
            have hyc : y.cells.length ≤ 1048576 ∧ Cell.sizedL y.cells := by cases y; rw [Row.sized] at hys; exact ⟨hys.2.1, hys.2.2⟩
            rw [hfy] at hsegy hcnt2
            have hb3 : ∀ y z, ∀ o, o < m3 → (hset (hset h3 m3 y) m3 z) o = h3 o := fun y z o g => by rw [hset_ne _ _ (by omega), hset_ne _ _ (by omega)]
            simp [go_sem, hjt, hy, Row.enc_eq, hset_at]
            generalize hk2 : k' + (Row.flL p.inTable (x.rows.take j)).length = k2 at hsegy hcnt2 M3
            refine goloop 1 (α := Nat × (Nat → Prop) × Hp) (fun q => [(3, .fn (.yield yl) [] []), (6, .ptr m 0), (22, itemsE l), (23, intE l.length), (24, intE i), (45, rowsE x.rows), (46, intE x.rows.length), (47, intE j), (52, cellsE y.cells), (53, intE y.cells.length), (54, intE q.1)]) (fun q => q.2.2)
              (fun q m' => q.1 ≤ y.cells.length ∧ Mid J D h m [(m, .cells [.bool p.body, .bool p.note, intE p.tables])] (k2 + (Cell.flL p.inTable (y.cells.take q.1)).length) q.2.1 q.2.2 m') (fun q => y.cells.length - q.1) (0, D3, _) ?_ ?_ look_same ?_
            · exact ⟨Nat.zero_le _, by dsimp only; rw [List.take_zero, Cell.flL]; exact M3.more Y (Nat.le_succ m3) (hb3 _ _)⟩
            · simp [look]
            clear hb3
            rintro ⟨q, D4, h4⟩ m4 ⟨hq, M4⟩
            dsimp only at hq M4 ⊢
            obtain ⟨hp4, _, hne4, _⟩ := M4.own _ (List.mem_singleton.2 rfl)
            dsimp only at hp4 hne4
            have hne4' : m ≠ m4 := by omega
            by_cases hqt : q < y.cells.length
            · have w3 : IntKind.i64.wrap ((q : Int) + 1) = ((q + 1 : Nat) : Int) := by rw [wr64] <;> omega
              obtain ⟨z, hz⟩ : ∃ z, y.cells[q] = z := ⟨_, rfl⟩
              have hzm : z ∈ y.cells := by rw [← hz]; exact List.getElem_mem hqt
              have hzs := Cell.sizedL_mem hyc.2 z hzm
              obtain ⟨r3, hc1, hc2⟩ := Cell.flL_take p.inTable y.cells q hqt
              rw [hz] at hc1 hc2
              have hfz : Cell.fl p.inTable z = flowsOf z.id z.flow p.inTable := by cases z; simp [Cell.fl, flowsOf, Cell.id, Cell.flow]
              have hcnt3 : k2 + (Cell.flL p.inTable (y.cells.take (q + 1))).length = k2 + (Cell.flL p.inTable (y.cells.take q)).length + (flowsOf z.id z.flow p.inTable).length := by rw [hc2, hfz]; simp; omega
              have hsegz : Seg xs (k2 + (Cell.flL p.inTable (y.cells.take q)).length) (flowsOf z.id z.flow p.inTable) := by rw [hc1, hfz] at hsegy; exact (hsegy.app).2.app.1
              have hzf : z.flow.length ≤ 1048576 ∧ Item.sizedL z.flow := by cases z; rw [Cell.sized] at hzs; exact ⟨hzs.2.1, hzs.2.2⟩
              have hb4 : ∀ y z, ∀ o, o < m4 → (hset (hset h4 m4 y) m4 z) o = h4 o := fun y z o g => by rw [hset_ne _ _ (by omega), hset_ne _ _ (by omega)]
              simp [go_sem, hqt, hz, Cell.enc_eq, hset_at, hset_ne, hp4, hne4']
              refine SCallE.mono (ih z.flow (by have := cell_size hxm hym hzm; omega) hzf.1 hzf.2 z.id p.inTable _ D4 _ _ (M4.keep Y (Nat.le_succ m4) (hb4 _ _)) hsegz) ?_
              intro v h5 m5 W
              rcases M4.step (Nat.le_succ m4) (hb4 _ _) W with ⟨rfl, D5, M5⟩ | ⟨rfl, hX⟩
              · simp [go_sem, w3, -Int.natCast_add]
                exact ⟨q + 1, by omega, D5, h5, ⟨by omega, by rw [hcnt3]; exact M5⟩, Fz.same, look_same⟩
              · simp [go_sem]
                exact .inl (Mid.any hX)
            · have : q = y.cells.length := by omega
              subst this
              rw [List.take_length] at M4
              simp [go_sem, w2, -Int.natCast_add]
              exact ⟨j + 1, by omega, D4, h4, ⟨by omega, by rw [hcnt2]; exact M4⟩, Fz.same, look_same⟩
          · have : j = x.rows.length := by omega
            subst this
            rw [List.take_length] at M3
            simp [go_sem, w1, -Int.natCast_add]
            exact ⟨i + 1, by omega, D3, h3, ⟨by omega, by rw [hcnt]; exact M3⟩, Fz.same, look_same⟩
        · have hfx : Item.fl p x = [] := by cases x; simp only [Item.kind] at k6 k7; simp [Item.fl, k6, k7]
          simp [go_sem, hlt, hx, Item.enc_eq, hset_at, k6, k7, w1, -Int.natCast_add]
          exact ⟨i + 1, by omega, D2, _, ⟨by omega, by rw [hcnt, hfx]; exact M2.more Y (Nat.le_succ m2) (hb2 _ _)⟩, Fz.same, look_same⟩
    · have : i = l.length := by omega
      subst this
      simp [go_sem]
      rw [List.take_length] at M2
      exact .inl (by have := M2.done (Jx := Jx); simpa [flowsOf, Nat.add_assoc, Nat.add_comm 1] using this)
  · simp [go_sem]
    exact .inl (Mid.any hX)
end
def Fl.ok (f : Fl) : Prop := f.items.length ≤ 1048576 ∧ Item.sizedL f.items
mutual
theorem Item.fl_ok (p : Place) : ∀ x : Item, x.sized → ∀ f ∈ Item.fl p x, f.ok
  | .mk k c i t hd f r, hs => by
    rw [Item.sized] at hs
    rw [Item.fl]
    split
    · intro g hg
      rcases List.mem_cons.1 hg with rfl | hg
      · exact ⟨hs.2.2.1, hs.2.2.2.2.1⟩
      · exact Item.flL_ok p.inNote f hs.2.2.2.2.1 g hg
    · split
      · exact Row.flL_ok p.inTable r hs.2.2.2.2.2
      · simp
theorem Item.flL_ok (p : Place) : ∀ l : List Item, Item.sizedL l → ∀ f ∈ Item.flL p l, f.ok
  | [], _ => by simp [Item.flL]
  | x :: l, hs => by
    rw [Item.sizedL] at hs
    intro g hg
    rw [Item.flL] at hg
    rcases List.mem_append.1 hg with hg | hg
    · exact Item.fl_ok p x hs.1 g hg
    · exact Item.flL_ok p l hs.2 g hg
theorem Row.fl_ok (p : Place) : ∀ x : Row, x.sized → ∀ f ∈ Row.fl p x, f.ok
  | .mk hd c, hs => by rw [Row.sized] at hs; rw [Row.fl]; exact Cell.flL_ok p c hs.2.2
theorem Row.flL_ok (p : Place) : ∀ l : List Row, Row.sizedL l → ∀ f ∈ Row.flL p l, f.ok
  | [], _ => by simp [Row.flL]
  | x :: l, hs => by
    rw [Row.sizedL] at hs
    intro g hg
    rw [Row.flL] at hg
    rcases List.mem_append.1 hg with hg | hg
    · exact Row.fl_ok p x hs.1 g hg
    · exact Row.flL_ok p l hs.2 g hg
theorem Cell.fl_ok (p : Place) : ∀ x : Cell, x.sized → ∀ f ∈ Cell.fl p x, f.ok
  | .mk i hd f, hs => by
    rw [Cell.sized] at hs
    rw [Cell.fl]
    intro g hg
    rcases List.mem_cons.1 hg with rfl | hg
    · exact ⟨hs.2.1, hs.2.2⟩
    · exact Item.flL_ok p f hs.2.2 g hg
theorem Cell.flL_ok (p : Place) : ∀ l : List Cell, Cell.sizedL l → ∀ f ∈ Cell.flL p l, f.ok
  | [], _ => by simp [Cell.flL]
  | x :: l, hs => by
    rw [Cell.sizedL] at hs
    intro g hg
    rw [Cell.flL] at hg
    rcases List.mem_append.1 hg with hg | hg
    · exact Cell.fl_ok p x hs.1 g hg
    · exact Cell.flL_ok p l hs.2 g hg
end
theorem flowsOf_ok {id : Int} {l : List Item} {p : Place} (hl : l.length ≤ 1048576) (hs : Item.sizedL l) : ∀ f ∈ flowsOf id l p, f.ok := by
  intro g hg
  rcases List.mem_cons.1 hg with rfl | hg
  · exact ⟨hl, hs⟩
  · exact Item.flL_ok p l hs g hg
section
variable {E : Env} {yl : Nat} {xs : List Fl} {J : Nat → (Nat → Prop) → Hp → Nat → Prop} {Jx : (Nat → Prop) → Hp → Nat → Prop}
theorem c247 (Y : YJ E yl Fl.enc xs J Jx) (l : List Item) (hl : l.length ≤ 1048576) (hs : Item.sizedL l) (id : Int) (p : Place) (k : Nat) (D : Nat → Prop) (h : Hp) (m : Nat) (hJ : J k D h m) (hseg : Seg xs k (flowsOf id l p)) :
    SCallE E Tryz.prog 247 [.fn (.yield yl) [] [], .iptr [intE id], .iptr [itemsE l], .iptr [.bool p.body, .bool p.note, intE p.tables]] h m (fun _ h' m' => ∃ v, WalkQ (J (k + (flowsOf id l p).length)) Jx D h m v h' m') := by
  refine go Tryz.func247 rfl (by kernel_rfl) (by kernel_rfl) (by simp [go_sem]) fun ho => ?_
  simp [go_sem]
  refine SCallE.mono (c248 Y (SizeOf.sizeOf l + 1) l (Nat.lt_succ_self _) hl hs id p k D h m hJ hseg) ?_
  intro v h' m' W
  simp [go_sem]
  exact .inl ⟨v, W⟩
end
theorem ptr_fz {h' h : Hp} {k o : Nat} {cs : List SV} (hn : h o = none) (hh : h' o = some (.cells cs)) : Fz h' h (k + 1) (.ptr o 0) (.iptr cs) := by
  refine .inr ⟨hn, cs, hh, by simp, ?_⟩
  have : ∀ l : List SV, All2 (Fz h' h k) l l := by
    intro l; induction l with
    | nil => trivial
    | cons a l ih => exact ⟨Fz.same, ih⟩
  simpa using this cs
theorem c173 (id : Int) (l : List Item) (p : Place) : PC 173 [intE id, itemsE l, p.enc] (.fn (.func 247) [] [.iptr [intE id], .iptr [itemsE l], .iptr [.bool p.body, .bool p.note, intE p.tables]]) := by
  intro h n
  refine go Tryz.func173 rfl (by kernel_rfl) (by kernel_rfl) (by simp [go_sem]) fun ho => ?_
  simp [go_sem, Place.enc]
  refine retFz 3 ho (by repeat (first | exact look_same | refine hset_old ho (by omega) ?_)) ?_ (by simp [closed, closedL, Item.E.closedL])
  have h0 := ho.none (Nat.le_refl n)
  have h1 := ho.none (Nat.le_succ n)
  have h2 := ho.none (show n ≤ n + 1 + 1 by omega)
  exact .inr ⟨rfl, trivial, ptr_fz h0 (by simp [hset, Nat.add_assoc]), ptr_fz h1 (by simp [hset, Nat.add_assoc]), ptr_fz h2 (by simp [hset, Nat.add_assoc]), trivial⟩
def docPlace : Place := ⟨true, false, 0⟩
theorem c109 (d : Document) : PC 109 [d.enc] (.fn (.func 247) [] [.iptr [intE 0], .iptr [itemsE d.flow], .iptr [.bool true, .bool false, intE 0]]) := by
  intro h n
  refine go Tryz.func109 rfl (by kernel_rfl) (by kernel_rfl) (by simp [go_sem]) fun ho => ?_
  simp [go_sem, Document.enc, Head.flat, Settings.flat, hset_at]
  refine (c173 0 d.flow docPlace).use ?_
  simp [go_sem]
  exact retIs ho (by repeat (first | exact look_same | refine hset_old ho (by omega) ?_)) rfl (by simp [closed, closedL, Item.E.closedL])
def docFlows (d : Document) : List Fl := flowsOf 0 d.flow docPlace
def docFlow (d : Document) (id : Int) : Option Fl := (docFlows d).find? fun f => decide (f.id = id)
theorem c34 (d : Document) (id : Int) (hl : d.flow.length ≤ 1048576) (hs : Item.sizedL d.flow) : PC 34 [d.enc, intE id] (.tup [itemsE (((docFlow d id).map Fl.items).getD []), .bool (docFlow d id).isSome]) := by
  intro h n
  refine goM Tryz.func34 rfl (by kernel_rfl) (by kernel_rfl) (by simp [go_sem]) fun ho B => ?_
  simp [go_sem, Document.enc, Head.flat, Settings.flat, hset_at, hset_ne, Nat.add_assoc]
  refine PC.use (by simpa [Document.enc, Head.flat, Settings.flat] using c109 d) ?_
  simp [go_sem]
  generalize hH : hset (hset (hset (hset h n _) (n + 1) _) (n + 2) _) (n + 3) _ = H
  refine SWE_rangeFunc rfl rfl rfl fun E1 l R hY => ?_
  have h1 : H (n + 1) = some (.cells [intE id]) := by rw [← hH]; simp [hset]
  have h2 : H (n + 2) = some (.cells [.imm 0 [] true]) := by rw [← hH]; simp [hset]
  have h3 : H (n + 3) = some (.cells [.bool false]) := by rw [← hH]; simp [hset]
  have hold : ∀ o, o < n → H o = h o := fun o g => by rw [← hH]; rw [hset_ne _ _ (by omega), hset_ne _ _ (by omega), hset_ne _ _ (by omega), hset_ne _ _ (by omega)]
  clear hH
  let D0 : Nat → Prop := fun o => n ≤ o ∧ o ≤ n + 4
  let J : Nat → (Nat → Prop) → Hp → Nat → Prop := fun k D hh m => D = D0 ∧ n + 4 < m ∧ hh (n + 1) = some (.cells [intE id]) ∧ hh (n + 2) = some (.cells [.imm 0 [] true]) ∧ hh (n + 3) = some (.cells [.bool false]) ∧ hh (n + 4) = some (.loop (R .ready none)) ∧ ∀ x ∈ (docFlows d).take k, x.id ≠ id
  let Jx : (Nat → Prop) → Hp → Nat → Prop := fun D hh m => D = D0 ∧ n + 4 < m ∧ ∃ x, docFlow d id = some x ∧ hh (n + 2) = some (.cells [itemsE x.items]) ∧ hh (n + 3) = some (.cells [.bool true]) ∧ hh (n + 4) = some (.loop (R .done (some .ret)))
  have Y : YJ E1 l Fl.enc (docFlows d) J Jx := by
    refine ⟨fun k x D hh m hx hJ => ?_, ?_, ?_⟩
    · obtain ⟨rfl, g0, g1, g2, g3, g4, g5⟩ := hJ
      refine hY _ _ _ _ g4 rfl (roundW_of ?_)
      have hxm : x ∈ docFlows d := List.mem_of_getElem? hx
      have hxo : x.ok := flowsOf_ok hl hs x hxm
      have e1 : n + 1 ≠ m := by omega
      have e2 : n + 2 ≠ m := by omega
      have e3 : n + 3 ≠ m := by omega
      have e4 : n + 4 ≠ m := by omega
      have e4' := e4.symm
      simp [go_sem, zipSA, Fl.enc, hset_at, hset_ne, g4, e4, g1, e1]
      by_cases hid : x.id = id
      · have hfind : docFlow d id = some x := by
          obtain ⟨hlt, hxx⟩ := List.getElem?_eq_some_iff.1 hx
          have hsplit : docFlows d = (docFlows d).take k ++ x :: (docFlows d).drop (k + 1) := by rw [← hxx, List.getElem_cons_drop, List.take_append_drop]
          rw [docFlow, hsplit, List.find?_append]
          have : ((docFlows d).take k).find? (fun f => decide (f.id = id)) = none := List.find?_eq_none.2 fun y hy => by simpa using g5 y hy
          rw [this]; simp [hid]
        simp [go_sem, hid, hset_at, hset_ne, e4']
        refine (c110 _ hxo.1 hxo.2).use ?_
        simp [go_sem, hset_at, hset_ne, g2, e2, g3, e3, roundQ]
        refine ⟨by omega, D0, fun o g => .inl g, fun o g1 g2 => ?_, .inr ⟨rfl, rfl, by omega, x, hfind, ?_⟩⟩
        · have : ¬ (n ≤ o ∧ o ≤ n + 4) := g1
          simp only [hset]
          rw [if_neg (by omega), if_neg (by omega), if_neg (by omega), if_neg (by omega), if_neg (by omega), if_neg (by omega)]
        · simp [hset]
      · simp [go_sem, hid, roundQ, hset_at]
        refine ⟨by omega, D0, fun o g => .inl g, fun o g1 g2 => ?_, .inl ⟨rfl, rfl, by omega, ?_, ?_, ?_, ?_, fun y hy => ?_⟩⟩
        · have : ¬ (n ≤ o ∧ o ≤ n + 4) := g1
          simp only [hset]
          rw [if_neg (by omega), if_neg (by omega), if_neg (by omega), if_neg (by omega)]
        · simp [hset, e1, g1]
        · simp [hset, e2, g2]
        · simp [hset, e3, g3]
        · simp [hset]
        · obtain ⟨hlt, hxx⟩ := List.getElem?_eq_some_iff.1 hx
          rw [List.take_succ_eq_append_getElem hlt, hxx] at hy
          rcases List.mem_append.1 hy with hy | hy
          · exact g5 y hy
          · rw [List.mem_singleton.1 hy]; exact hid
    · rintro k D hh m h' m' ⟨rfl, g0, g1, g2, g3, g4, g5⟩ hm hD
      exact ⟨rfl, by omega, by rw [hD _ ⟨by omega, by omega⟩]; exact g1, by rw [hD _ ⟨by omega, by omega⟩]; exact g2, by rw [hD _ ⟨by omega, by omega⟩]; exact g3, by rw [hD _ ⟨by omega, by omega⟩]; exact g4, g5⟩
    · rintro k D hh m ⟨rfl, g0, _⟩ o ⟨a, b⟩; omega
  refine SCallE.mono (c247 Y d.flow hl hs 0 docPlace 0 D0 _ _ ⟨rfl, by omega, ?_, ?_, ?_, ?_, by simp⟩ ⟨[], by simp [docFlows]⟩) ?_
  · rw [hset_ne _ _ (by omega)]; exact h1
  · rw [hset_ne _ _ (by omega)]; exact h2
  · rw [hset_ne _ _ (by omega)]; exact h3
  · exact hset_at _ _ _
  rintro _ h' m' ⟨v, hm, D', hDD, hh, hv⟩
  rcases hv with ⟨rfl, rfl, g0, g1, g2, g3, g4, g5⟩ | ⟨rfl, rfl, g0, x, hx, g2, g3, g4⟩
  · refine ⟨_, _, g4, by simp, ?_⟩
    simp [go_sem, hset_at, hset_ne, g2, g3]
    have hnone : docFlow d id = none := List.find?_eq_none.2 fun y hy => by simpa using g5 y (by simpa [docFlows, docPlace] using hy)
    refine retFz 2 ho (fun o y e => ?_) (by rw [hnone]; exact .inr ⟨imm_fz (by simp), Fz.same, trivial⟩) (by rw [hnone]; rfl)
    have g := (ho o y e).1
    rw [hset_ne _ _ (by omega), hset_ne _ _ (by omega), hset_ne _ _ (by omega), hh o (fun g' => by have : n ≤ o ∧ o ≤ n + 4 := g'; omega) (by omega), hset_ne _ _ (by omega), hold o g, e]
  · refine ⟨_, _, g4, by simp, ?_⟩
    simp [go_sem, hset_ne, g2, g3]
    refine retIs ho (fun o y e => ?_) (by rw [hx]; rfl) (by rw [hx]; simp [closed, closedL, Item.E.closedL])
    have g := (ho o y e).1
    rw [hset_ne _ _ (by omega), hh o (fun g' => by have : n ≤ o ∧ o ≤ n + 4 := g'; omega) (by omega), hset_ne _ _ (by omega), hold o g, e]
def itemsAt : Int → List Item → List (Int × Item)
  | _, [] => []
  | a, x :: l => (a, x) :: itemsAt (a + x.units) l
def atE (p : Int × Item) : List SV := [intE p.1, p.2.enc]
theorem itemsAt_len : ∀ (a : Int) (l : List Item), (itemsAt a l).length = l.length
  | _, [] => rfl
  | a, x :: l => by simp [itemsAt, itemsAt_len _ l]
theorem itemsAt_get : ∀ (a : Int) (l : List Item) (k : Nat) (h : k < l.length), (itemsAt a l)[k]? = some (a + unitsL (l.take k), l[k])
  | a, x :: l, 0, _ => by simp [itemsAt, unitsL]
  | a, x :: l, k + 1, h => by
    simp only [itemsAt, List.getElem?_cons_succ, List.take_succ_cons, unitsL, List.getElem_cons_succ]
    rw [itemsAt_get _ l k (by simpa using h), Int.add_assoc]
section
variable {E : Env} {yl : Nat} {J : Nat → (Nat → Prop) → Hp → Nat → Prop} {Jx : (Nat → Prop) → Hp → Nat → Prop}
theorem c312 (l : List Item) (Y : YJ E yl atE (itemsAt 0 l) J Jx) (hl : l.length ≤ 1048576) (hs : ∀ x ∈ l, x.text.size ≤ 1048576) (D : Nat → Prop) (h : Hp) (m : Nat) (hJ : J 0 D h m) :
    SCallE E Tryz.prog 312 [.fn (.yield yl) [] [], .iptr [itemsE l]] h m (fun _ h' m' => ∃ v, WalkQ (J l.length) Jx D h m v h' m') := by
  refine go Tryz.func312 rfl (by kernel_rfl) (by kernel_rfl) (by simp [go_sem]) fun ho => ?_
  simp [go_sem]
  have M0 : Mid J D h m [] 0 D h m := ⟨Nat.le_refl _, hJ, by simp, fun o g => .inl g, fun _ _ _ => rfl⟩
  refine goloop 1 (α := Nat × (Nat → Prop) × Hp) (fun q => [(0, .fn (.yield yl) [] []), (3, intE (unitsL (l.take q.1))), (8, itemsE l), (9, intE l.length), (10, intE q.1)]) (fun q => q.2.2)
    (fun q m' => q.1 ≤ l.length ∧ Mid J D h m [] q.1 q.2.1 q.2.2 m') (fun q => l.length - q.1) (0, D, h) ?_ ?_ look_same ?_
  · exact ⟨Nat.zero_le _, M0⟩
  · simp [look, unitsL]
  rintro ⟨i, D2, h2⟩ m2 ⟨hi, M2⟩
  dsimp only at hi M2 ⊢
  by_cases hlt : i < l.length
  · have w1 : IntKind.i64.wrap ((i : Int) + 1) = ((i + 1 : Nat) : Int) := by rw [wr64] <;> omega
    obtain ⟨x, hx⟩ : ∃ x, l[i] = x := ⟨_, rfl⟩
    have hxm : x ∈ l := by rw [← hx]; exact List.getElem_mem hlt
    have hb1 := unitsL_le (l.take i) fun y hy => hs y (List.mem_of_mem_take hy)
    have hb2 := x.units_le (hs x hxm)
    have hlk : ((l.take i).length : Int) ≤ 1048576 := by simp; omega
    have htk : l.take (i + 1) = l.take i ++ [x] := by rw [List.take_succ_eq_append_getElem hlt, hx]
    have w2 : IntKind.i64.wrap (unitsL (l.take i) + x.units) = unitsL (l.take (i + 1)) := by
      rw [wr64, htk, unitsL_append]
      · simp [unitsL]
      · omega
      · have : ((l.take i).length : Int) * 1048576 ≤ 1048576 * 1048576 := by omega
        omega
    have hget := itemsAt_get 0 l i hlt
    rw [hx, Int.zero_add] at hget
    have hb : ∀ y z, ∀ o, o < m2 → (hset (hset h2 m2 y) m2 z) o = h2 o := fun y z o g => by rw [hset_ne _ _ (by omega), hset_ne _ _ (by omega)]
    have hee : atE (unitsL (l.take i), x) = [intE (unitsL (l.take i)), x.enc] := rfl
    rw [Item.enc_eq] at hee
    simp [go_sem, hlt, hx, Item.enc_eq, hset_at]
    have hst := fun hb mb g => Y.step i _ D2 hb mb hget g
    rw [hee] at hst
    have hDm : ¬ D2 m2 := fun g => by have := Y.lt _ _ _ _ M2.j _ g; omega
    generalize hH : hset (hset h2 m2 _) m2 _ = H2
    have M3 : Mid J D h m [(m2, .cells [intE x.kind, intE x.code, intE x.id, .str x.text, propsE x.head.props, intE x.head.ins, intE x.head.move, delsE x.head.dels, layersE x.head.layers, itemsE x.flow, rowsE x.rows])] i D2 H2 (m2 + 1) :=
      (M2.more Y (Nat.le_succ m2) (by rw [← hH]; exact hb _ _)).add (by rw [← hH]; exact hset_at _ _ _) M2.lt (Nat.lt_succ_self m2) hDm
    refine YCallE.mono (hst _ _ M3.j) ?_
    intro v h3 m3 W
    rcases M3.step (Nat.le_refl _) (fun _ _ => rfl) W with ⟨rfl, D3, M4⟩ | ⟨rfl, hX⟩
    · obtain ⟨g1, _, _, _⟩ := M4.own _ (List.mem_singleton.2 rfl)
      simp [go_sem, g1]
      refine PC.use (by simpa [Item.enc_eq] using c111 x (hs x hxm)) ?_
      simp [go_sem, w1, w2, -Int.natCast_add]
      exact ⟨i + 1, by omega, D3, h3, ⟨by omega, M4.drop⟩, ⟨Fz.same, Fz.same⟩, look_same⟩
    · simp [go_sem]
      exact .inl ⟨_, Mid.any hX⟩
  · have : i = l.length := by omega
    subst this
    simp [go_sem]
    exact .inl ⟨_, M2.done⟩
end
def Item.setText (y : Item) (t : ByteArray) : Item := .mk y.kind y.code y.id t y.head y.flow y.rows
def divStep (cu : Int) (s : List Item × List Item) (p : Int × Item) : List Item × List Item :=
  if p.1 + p.2.units ≤ cu then (s.1 ++ [p.2], s.2) else if cu ≤ p.1 then (s.1, s.2 ++ [p.2]) else
    (s.1 ++ [p.2.setText (p.2.text.extract 0 (cpOffset p.2.text (cu - p.1)).1.toNat)], s.2 ++ [p.2.setText (p.2.text.extract (cpOffset p.2.text (cu - p.1)).1.toNat p.2.text.size)])
def divK (l : List Item) (cu : Int) (k : Nat) : List Item × List Item := ((itemsAt 0 l).take k).foldl (divStep cu) ([], [])
def runDivide (l : List Item) (cu : Int) : List Item × List Item := divK l cu l.length
theorem cpBegins_le (s : ByteArray) : ∀ k, ∀ x ∈ cpBegins s k, 0 ≤ x ∧ x < k
  | 0, x, h => by simp [cpBegins] at h
  | k + 1, x, h => by
    unfold cpBegins at h
    split at h
    · rcases List.mem_append.1 h with h | h
      · have := cpBegins_le s k x h; omega
      · have := List.mem_singleton.1 h; omega
    · have := cpBegins_le s k x h; omega
theorem cpOffset_le (s : ByteArray) (u : Int) : 0 ≤ (cpOffset s u).1 ∧ (cpOffset s u).1 ≤ s.size := by
  unfold cpOffset
  split
  · simp
  · split
    · simp
    · simp only
      rw [List.getD_eq_getElem?_getD]
      cases h : (cpBegins s s.size ++ [(s.size : Int)])[u.toNat]? with
      | none => simp
      | some x =>
        have := List.mem_of_getElem? h
        rcases List.mem_append.1 this with h | h
        · have := cpBegins_le s _ x h; simp; omega
        · have := List.mem_singleton.1 h; simp; omega
theorem divK_succ (l : List Item) (cu : Int) (k : Nat) (h : k < l.length) : divK l cu (k + 1) = divStep cu (divK l cu k) (unitsL (l.take k), l[k]) := by
  have hg := itemsAt_get 0 l k h
  obtain ⟨hlt, he⟩ := List.getElem?_eq_some_iff.1 hg
  unfold divK
  rw [List.take_succ_eq_append_getElem hlt, List.foldl_append, he, Int.zero_add]; rfl
theorem divStep_len (cu : Int) (s : List Item × List Item) (p : Int × Item) : (divStep cu s p).1.length ≤ s.1.length + 1 ∧ (divStep cu s p).2.length ≤ s.2.length + 1 := by
  unfold divStep; split
  · simp
  · split <;> simp
theorem divK_len (l : List Item) (cu : Int) : ∀ k, k ≤ l.length → (divK l cu k).1.length ≤ k ∧ (divK l cu k).2.length ≤ k
  | 0, _ => by simp [divK]
  | k + 1, h => by
    rw [divK_succ l cu k h]
    have h1 := divStep_len cu (divK l cu k) (unitsL (l.take k), l[k])
    have h2 := divK_len l cu k (by omega)
    omega
structure DivJ (l : List Item) (cu : Int) (n : Nat) (R : LoopState → Option Code → Loop) (k : Nat) (D : Nat → Prop) (hh : Hp) (m : Nat) (oL oR : Option Nat) : Prop where
  lt : n + 3 < m
  cell : hh n = some (.cells [intE cu])
  left : hh (n + 1) = some (.cells [AccV 11 oL ((divK l cu k).1.map Item.enc)])
  right : hh (n + 2) = some (.cells [AccV 11 oR ((divK l cu k).2.map Item.enc)])
  loop : hh (n + 3) = some (.loop (R .ready none))
  accL : AccI (n + 4) m 11 oL ((divK l cu k).1.map Item.enc)
  accR : AccI (n + 4) m 11 oR ((divK l cu k).2.map Item.enc)
  ne : ∀ j, oL = some j → oR ≠ some j
  objL : ∀ j, oL = some j → hh j = some (.cells (((divK l cu k).1.map Item.enc).flatMap SV.cells))
  objR : ∀ j, oR = some j → hh j = some (.cells (((divK l cu k).2.map Item.enc).flatMap SV.cells))
  dom : D = fun o => (n ≤ o ∧ o ≤ n + 3) ∨ oL = some o ∨ oR = some o
theorem DivJ.keep {l : List Item} {cu : Int} {n : Nat} {R : LoopState → Option Code → Loop} {k : Nat} {D : Nat → Prop} {hh : Hp} {m : Nat} {oL oR : Option Nat} (H : DivJ l cu n R k D hh m oL oR) {h' : Hp} {m' : Nat} (hm : m ≤ m') (hD : ∀ o, D o → h' o = hh o) : DivJ l cu n R k D h' m' oL oR := by
  have hd : ∀ o, (n ≤ o ∧ o ≤ n + 3) ∨ oL = some o ∨ oR = some o → h' o = hh o := fun o g => hD o (by rw [H.dom]; exact g)
  exact ⟨by have := H.lt; omega, by rw [hd _ (.inl ⟨by omega, by omega⟩)]; exact H.cell, by rw [hd _ (.inl ⟨by omega, by omega⟩)]; exact H.left, by rw [hd _ (.inl ⟨by omega, by omega⟩)]; exact H.right, by rw [hd _ (.inl ⟨by omega, by omega⟩)]; exact H.loop, H.accL.mono hm, H.accR.mono hm, H.ne,
    fun j e => by rw [hd j (.inr (.inl e))]; exact H.objL j e, fun j e => by rw [hd j (.inr (.inr e))]; exact H.objR j e, H.dom⟩
theorem DivJ.dlt {l : List Item} {cu : Int} {n : Nat} {R : LoopState → Option Code → Loop} {k : Nat} {D : Nat → Prop} {hh : Hp} {m : Nat} {oL oR : Option Nat} (H : DivJ l cu n R k D hh m oL oR) : ∀ o, D o → o < m := fun o g => by
  rw [H.dom] at g
  have := H.lt
  rcases g with ⟨_, g⟩ | g | g
  · omega
  · exact (H.accL.lt o g).2
  · exact (H.accR.lt o g).2
theorem DivJ.fin {l : List Item} {cu : Int} {n : Nat} {R : LoopState → Option Code → Loop} {k : Nat} {D : Nat → Prop} {hh : Hp} {m : Nat} {oL oR : Option Nat} (hJ : DivJ l cu n R k D hh m oL oR) {sa : SA} {H2 : Hp} {m' : Nat} {L' R' : List Item} (hs : divK l cu (k + 1) = (L', R')) (oL' oR' : Option Nat) (hm : m ≤ m')
    (hc : H2 n = some (.cells [intE cu])) (hl : H2 (n + 1) = some (.cells [AccV 11 oL' (L'.map Item.enc)])) (hr : H2 (n + 2) = some (.cells [AccV 11 oR' (R'.map Item.enc)])) (hb : H2 (n + 3) = some (.loop (R .busy none)))
    (aL : AccI (n + 4) m' 11 oL' (L'.map Item.enc)) (aR : AccI (n + 4) m' 11 oR' (R'.map Item.enc))
    (nL : ∀ j, oL' = some j → oL = some j ∨ m ≤ j) (nR : ∀ j, oR' = some j → oR = some j ∨ m ≤ j) (ne : ∀ j, oL' = some j → oR' ≠ some j)
    (obL : ∀ j, oL' = some j → H2 j = some (.cells ((L'.map Item.enc).flatMap SV.cells))) (obR : ∀ j, oR' = some j → H2 j = some (.cells ((R'.map Item.enc).flatMap SV.cells)))
    (fr : ∀ o, ¬ D o → o < m → H2 o = hh o) (Jx : (Nat → Prop) → Hp → Nat → Prop) :
    roundQ (n + 3) R (WalkQ (fun D hh m => ∃ oL oR, DivJ l cu n R (k + 1) D hh m oL oR) Jx D hh m) .normal sa H2 m' := by
  have hlt := hJ.lt
  have nd3 : ∀ o, ¬ D o → o ≠ n + 3 := fun o g e => g (by rw [hJ.dom]; exact .inl (by omega))
  refine ⟨hb, hm, fun o => (n ≤ o ∧ o ≤ n + 3) ∨ oL' = some o ∨ oR' = some o, fun o g => ?_, fun o g1 g2 => by rw [hset_ne _ _ (nd3 o g1)]; exact fr o g1 g2, .inl ⟨rfl, oL', oR', ?_⟩⟩
  · rcases g with g | g | g
    · exact .inl (by rw [hJ.dom]; exact .inl g)
    · rcases nL o g with g' | g'
      · exact .inl (by rw [hJ.dom]; exact .inr (.inl g'))
      · exact .inr ⟨g', (aL.lt o g).2⟩
    · rcases nR o g with g' | g'
      · exact .inl (by rw [hJ.dom]; exact .inr (.inr g'))
      · exact .inr ⟨g', (aR.lt o g).2⟩
  · refine ⟨by omega, by rw [hset_ne _ _ (by omega)]; exact hc, by rw [hset_ne _ _ (by omega), hs]; exact hl, by rw [hset_ne _ _ (by omega), hs]; exact hr, hset_at _ _ _, by rw [hs]; exact aL, by rw [hs]; exact aR, ne, fun j e => ?_, fun j e => ?_, rfl⟩
    · have := (aL.lt j e).1; rw [hset_ne _ _ (by omega), hs]; exact obL j e
    · have := (aR.lt j e).1; rw [hset_ne _ _ (by omega), hs]; exact obR j e
theorem AccI.mv {n m m' z : Nat} {o : Option Nat} {es : List SV} (h : AccI n m z o es) (hm : m ≤ m') : AccI n m' z o es := h.mono hm
theorem c285 (l : List Item) : PC 285 [itemsE l] (.fn (.func 312) [] [.iptr [itemsE l]]) := by
  intro h n
  refine go Tryz.func285 rfl (by kernel_rfl) (by kernel_rfl) (by simp [go_sem]) fun ho => ?_
  simp [go_sem]
  exact retFz 3 ho (hset_old ho (Nat.le_refl _) look_same) (.inr ⟨rfl, trivial, ptr_fz (ho.none (Nat.le_refl n)) (by simp [hset]), trivial⟩) (by simp [closed, closedL, Item.E.closedL])
theorem mapTo_cons {α β : Type} (f : α → β) (a : α) (l : List α) : List.map f (List.toArray (a :: l)).toList = f a :: List.map f (List.toArray l).toList := rfl
theorem mapTo_nil {α β : Type} (f : α → β) : List.map f (List.toArray ([] : List α)).toList = [] := rfl
theorem cz22 : ofValue (.agg #[.int .i64 0, .int .i64 0, .int .i64 0, .string { data := #[] }, .slice none 0 0, .int .i64 0, .int .i64 0, .slice none 0 0, .slice none 0 0, .slice none 0 0, .slice none 0 0]) = .agg [.int .i64 0, .int .i64 0, .int .i64 0, .str .empty, .imm 0 [] true, .int .i64 0, .int .i64 0, .imm 0 [] true, .imm 0 [] true, .imm 0 [] true, .imm 0 [] true] := rfl
end Go.Proofs.YtgakninlhfkkmaaGreat.Sh
