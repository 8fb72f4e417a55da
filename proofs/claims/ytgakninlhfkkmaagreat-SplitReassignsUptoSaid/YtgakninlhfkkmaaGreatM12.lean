/- A part of the proof (part 12 of 14). -/
import Derived.Test.YtgakninlhfkkmaaGreatM11
import Derived.Lib.Overlaps
import Derived.Lib.AppendZerosOnto
namespace Go.Proofs.YtgakninlhfkkmaaGreat.Sh
open Proofs
set_option maxRecDepth 10000
theorem goMS {E : By} {f : FuncId} {fn : Func} {code : Code} {args : List SV} {h : Hp} {n : Nat} {K : SV → Hp → Nat → Prop} (hf : Tryz.prog.funcs[f]? = some fn) (hb : fn.body = some code)
 (hn : (fn.name != "runtime.NumGoroutine") = true) (hd : Code.dok fn.ntmps code = true) (hl : args.length ≤ fn.ntmps)
 (H : FM h n → ∀ B, SP (E.call true B) fn.ntmps code (Lx Tryz.prog fn n K) (EK 0 args) h n) : Ak E Tryz.prog f args h n K :=
 Ko hf hb hn hd hl fun _ ho B => H ho B
set_option maxHeartbeats 4000000 in
theorem t146 (l : List A7) (hl : l.length ≤ 1048576) (hs : ∀ x ∈ l, x.props.length ≤ 1048576) : TC 146 [Ac l] E5 := by
 intro h n
 refine goMS Tryz.func146 rfl (by kernel_rfl) (by kernel_rfl) (by simp [go_sem]) fun ho B => ?_
 have hHb := ho.lt
 obtain ⟨G, hG⟩ : ∃ G : Int → Hp, ∀ e, G e = hset h (n + 1) (some (.cells [AA e])) := ⟨_, fun _ => rfl⟩
 have hGa : ∀ e, G e (n + 1) = some (.cells [AA e]) := fun e => by rw [hG, AC]
 have hGs : ∀ e e', hset (G e) (n + 1) (some (.cells [AA e'])) = G e' := fun e e' => by rw [hG, hG, Ai]
 have hGk : ∀ e j y, h j = some y → G e j = some y := fun e j y g => by rw [hG, AD _ _ (by have := hHb j y g; omega)]; exact g
 have hGb : ∀ e j y, G e j = some y → j < n + 2 := fun e j y g => by
  rw [hG] at g; simp only [hset] at g; split at g
  · omega
  · have := hHb j y g; omega
 have out : ∀ (e : Int) (m : Nat), CE n (G e) m (AA e) (fun v h' n' => E5 v ∧ h' = h ∧ n' = n) := fun e m => GG ho (hGk e) (by simp [closed]) ⟨e, rfl⟩
 refine Bn 1 [(1, .iptr [Ac l]), (2, .ptr (n + 1) 0)] (G 0) (fun m => n + 1 < m) ?_ (fun m hm => ?_)
 · rw [hG]
   simp [go_sem, Jo]
   refine ⟨AW (by simp [hset]; exact Ad hHb (JO _)) (by simp [hset]), fun j y => ?_⟩
   have := hHb j y; simp only [hset]; grind
 refine CD 0 [(1, .iptr [Ac l]), (2, .ptr (n + 1) 0)] (G 0) (fun m => n + 1 < m) (AK ?_) (fun m hm => ?_)
 · by_cases a1 : (128 : Int) < l.length
   · simp [go_sem, a1, hGa, hGs]; exact out _ _
   · simp [go_sem, a1, Jo, hm]
 refine CD 0 [(1, .iptr [Ac l]), (2, .ptr (n + 1) 0)] (G 0) (fun m => n + 1 < m) ?_ (fun m hm => ?_)
 · refine Bn 0 [(1, .iptr [Ac l]), (2, .ptr (n + 1) 0), (14, AA l.length), (15, AA 0)] (G 0) (fun m => n + 1 < m) ?_ (fun m hm => ?_)
   · simp [go_sem, Jo, hm]
   refine AX (BX 0 (α := Nat) (fun i => [(1, .iptr [Ac l]), (2, .ptr (n + 1) 0), (14, AA l.length), (15, AA i)]) (fun _ => G 0) (fun i m => i ≤ l.length ∧ n + 1 < m) (fun i => l.length - i) 0 ⟨K2 _, hm⟩ ?_ AB ?_)
   · simp [go_sem, Am, Jo]
   rintro i m ⟨hi, hm⟩
   by_cases hlt : i < l.length
   · have w1 := wS i (by omega)
     refine AK ?_
     simp [go_sem, hlt]
     refine ZY (t207 l hl hs i hlt) ?_
     rintro v ⟨e, rfl⟩
     by_cases e0 : e = 0
     · simp [go_sem, e0, w1, Jo, -Int.natCast_add]
       exact ⟨i + 1, by omega, ⟨by omega, hm⟩, rfl⟩
     · have e1 : (e != 0) = true := by simpa using e0
       simp [go_sem, e1, hGa, hGs]
       exact out _ _
   · refine AK ?_
     simp [go_sem, hlt, Jo, hm]
 refine CD 0 [(1, .iptr [Ac l]), (2, .ptr (n + 1) 0)] (G 0) (fun m => n + 1 < m) ?_ (fun m hm => ?_)
 · refine Bn 0 [(1, .iptr [Ac l]), (2, .ptr (n + 1) 0), (25, Ac l), (26, AA l.length), (27, AA 0)] (G 0) (fun m => n + 1 < m) ?_ (fun m hm => ?_)
   · simp [go_sem, Jo, hm]
   refine AX (BX 0 (α := Nat) (fun i => [(1, .iptr [Ac l]), (2, .ptr (n + 1) 0), (25, Ac l), (26, AA l.length), (27, AA i)]) (fun _ => G 0) (fun i m => i ≤ l.length ∧ n + 1 < m) (fun i => l.length - i) 0 ⟨K2 _, hm⟩ ?_ AB ?_)
   · simp [go_sem, Am, Jo]
   rintro i m ⟨hi, hm⟩
   by_cases hlt : i < l.length
   · have w1 := wS i (by omega)
     obtain ⟨x, hx⟩ : ∃ x, l[i] = x := ⟨_, rfl⟩
     obtain ⟨X, hX⟩ : ∃ X : SV, X = .iptr [AA x.id, AA x.kind, .str x.name, AA x.base, AA x.next, Ag x.props] := ⟨_, rfl⟩
     refine Bn 0 [(1, .iptr [Ac l]), (2, .ptr (n + 1) 0), (25, Ac l), (26, AA l.length), (27, AA i), (28, .bool true)] (G 0) (fun m => n + 1 < m) ?_ (fun m hm => ?_)
     · simp [go_sem, Jo, hm, hlt]
     refine Bn 0 [(1, .iptr [Ac l]), (2, .ptr (n + 1) 0), (25, Ac l), (26, AA l.length), (27, AA i)] (G 0) (fun m => n + 1 < m) ?_ (fun m hm => ?_)
     · simp [go_sem, Jo, hm]
     refine AV 0 (α := Unit) (fun _ => [(1, .iptr [Ac l]), (2, .ptr (n + 1) 0), (25, Ac l), (26, AA l.length), (27, AA i)]) (fun _ => G 0) (fun _ m => n + 1 < m) (AX ?_) (fun _ m hm => ?_)
     · refine Bn 1 [(1, .iptr [Ac l]), (2, .ptr (n + 1) 0), (25, Ac l), (26, AA l.length), (27, AA i), (6, X)] (G 0) (fun m => n + 1 < m) ?_ (fun m hm => ?_)
       · have hHm : ∀ j y, G 0 j = some y → j < m := fun j y e => by have := hGb 0 j y e; omega
         rw [hX]
         simp [go_sem, Jo, hlt, hx, A7.enc, AC]
         exact ⟨by omega, AW (Ad hHm (JO _)) (AC _ _ _), AJ hHm (AJ hHm AB)⟩
       refine BO 0 (α := Bx) (fun b => [(1, .iptr [Ac l]), (2, .ptr (n + 1) 0), (25, Ac l), (26, AA l.length), (27, AA i), (59, .bool b.b)]) (fun _ => G 0) (fun _ m => n + 1 < m) ?_ (fun b m hm => ?_)
       · rw [hX]
         have e208 : ∀ (kd id : Int) {m : Nat} {K : SV → Hp → Nat → Prop}, (∀ b, K (.bool b) (G 0) m) → Ak (By.plain.call true B) Tryz.prog 208 [Ac l, AA kd, AA id] (G 0) m K := fun kd id m K hK => Y4 (c208 l kd id hl) (hK _)
         have second : x.next = 0 ∨ (x.next ≠ 0 ∧ x.kind = 2) ∨ (x.next ≠ 0 ∧ x.kind ≠ 2) := by
          by_cases c1 : x.next = 0
          · exact .inl c1
          · by_cases c2 : x.kind = 2
            · exact .inr (.inl ⟨c1, c2⟩)
            · exact .inr (.inr ⟨c1, c2⟩)
         by_cases b0 : x.base = 0
         · rcases second with c1 | ⟨c1, c2⟩ | ⟨c1, c2⟩
           · simp [go_sem, b0, c1, Jo, hm]; exact ⟨⟨_⟩, rfl⟩
           · have c1' : (x.next != 0) = true := by simpa using c1
             simp [go_sem, b0, c1', c2, Jo, hm]; exact ⟨⟨_⟩, rfl⟩
           · have c1' : (x.next != 0) = true := by simpa using c1
             have c2' : (x.kind == 2) = false := by simpa using c2
             simp [go_sem, b0, c1', c2']
             refine e208 _ _ fun b => ?_
             cases b <;> simp [go_sem, Jo, hm] <;> exact ⟨⟨_⟩, rfl⟩
         · have b0' : (x.base != 0) = true := by simpa using b0
           simp [go_sem, b0']
           refine e208 _ _ fun b => ?_
           cases b with
           | false => simp [go_sem, Jo, hm]; exact ⟨⟨_⟩, rfl⟩
           | true =>
            rcases second with c1 | ⟨c1, c2⟩ | ⟨c1, c2⟩
            · simp [go_sem, c1, Jo, hm]; exact ⟨⟨_⟩, rfl⟩
            · have c1' : (x.next != 0) = true := by simpa using c1
              simp [go_sem, c1', c2, Jo, hm]; exact ⟨⟨_⟩, rfl⟩
            · have c1' : (x.next != 0) = true := by simpa using c1
              have c2' : (x.kind == 2) = false := by simpa using c2
              simp [go_sem, c1', c2']
              refine e208 _ _ fun b => ?_
              cases b <;> simp [go_sem, Jo, hm] <;> exact ⟨⟨_⟩, rfl⟩
       obtain ⟨b⟩ := b
       dsimp only
       refine AK ?_
       cases b with
       | true => simp [go_sem, hGa, hGs]; exact out _ _
       | false => simp [go_sem, Jo, hm]
     · refine AK ?_
       simp [go_sem, w1, Jo, -Int.natCast_add]
       exact ⟨i + 1, by omega, ⟨by omega, hm⟩, rfl⟩
   · refine AK ?_
     simp [go_sem, hlt, Jo, hm]
 refine CD 0 [(2, .ptr (n + 1) 0)] (G 0) (fun m => n + 1 < m) ?_ (fun m hm => ?_)
 · refine Bn 0 [(1, .iptr [Ac l]), (2, .ptr (n + 1) 0), (61, Ac l), (62, AA l.length), (63, AA 0)] (G 0) (fun m => n + 1 < m) ?_ (fun m hm => ?_)
   · simp [go_sem, Jo, hm]
   refine AX (BX 0 (α := Nat) (fun i => [(1, .iptr [Ac l]), (2, .ptr (n + 1) 0), (61, Ac l), (62, AA l.length), (63, AA i)]) (fun _ => G 0) (fun i m => i ≤ l.length ∧ n + 1 < m) (fun i => l.length - i) 0 ⟨K2 _, hm⟩ ?_ AB ?_)
   · simp [go_sem, Am, Jo]
   rintro i m ⟨hi, hm⟩
   by_cases hlt : i < l.length
   · have w1 := wS i (by omega)
     obtain ⟨x, hx⟩ : ∃ x, l[i] = x := ⟨_, rfl⟩
     refine Bn 0 [(1, .iptr [Ac l]), (2, .ptr (n + 1) 0), (61, Ac l), (62, AA l.length), (63, AA i), (64, .bool true)] (G 0) (fun m => n + 1 < m) ?_ (fun m hm => ?_)
     · simp [go_sem, Jo, hm, hlt]
     refine Bn 0 [(1, .iptr [Ac l]), (2, .ptr (n + 1) 0), (61, Ac l), (62, AA l.length), (63, AA i)] (G 0) (fun m => n + 1 < m) ?_ (fun m hm => ?_)
     · simp [go_sem, Jo, hm]
     refine AV 0 (α := Unit) (fun _ => [(1, .iptr [Ac l]), (2, .ptr (n + 1) 0), (61, Ac l), (62, AA l.length), (63, AA i)]) (fun _ => G 0) (fun _ m => n + 1 < m) (AX ?_) (fun _ m hm => ?_)
     · refine Bn 1 [(1, .iptr [Ac l]), (2, .ptr (n + 1) 0), (61, Ac l), (62, AA l.length), (63, AA i), (8, .iptr [AA x.id, AA x.kind, .str x.name, AA x.base, AA x.next, Ag x.props])] (G 0) (fun m => n + 1 < m) ?_ (fun m hm => ?_)
       · have hHm : ∀ j y, G 0 j = some y → j < m := fun j y e => by have := hGb 0 j y e; omega
         simp [go_sem, Jo, hlt, hx, A7.enc, AC]
         exact ⟨by omega, AW (Ad hHm (JO _)) (AC _ _ _), AJ hHm (AJ hHm AB)⟩
       refine Bn 0 [(1, .iptr [Ac l]), (2, .ptr (n + 1) 0), (61, Ac l), (62, AA l.length), (63, AA i), (8, .iptr [AA x.id, AA x.kind, .str x.name, AA x.base, AA x.next, Ag x.props]), (9, .ptr m 0)] (hset (G 0) m (some (.cells [AA 0]))) (fun m2 => m < m2) ?_ (fun m2 hm2 => ?_)
       · simp [go_sem, Jo, AC, Ai]
       refine BO 0 (α := Hp × Nat) (fun z => [(1, .iptr [Ac l]), (2, .ptr (n + 1) 0), (61, Ac l), (62, AA l.length), (63, AA i), (9, .ptr m 0), (70, .fn (.func 270) [] [.iptr [Ac l], .ptr z.2 0])]) (fun z => z.1) (fun z m3 => m2 ≤ z.2 ∧ z.2 < m3 ∧ z.1 z.2 = some (.cells [AA x.id]) ∧ ∀ o y, hset (G 0) m (some (.cells [AA 0])) o = some y → z.1 o = some y) ?_ (fun z m3 hm3 => ?_)
       · simp [go_sem]
         refine Y9 (d209 l x.id) ?_
         rintro v H' n' ⟨k, rfl, g1, g2, g3, g4⟩
         simp [go_sem, Jo]
         exact ⟨H', k, ⟨g1, g2, g3, g4⟩, rfl, AB⟩
       obtain ⟨z, k⟩ := z
       obtain ⟨k1, k2, k3, k4⟩ := hm3
       dsimp only at k1 k2 k3 k4 ⊢
       refine AX ?_
       refine FJ rfl rfl rfl fun E1 yl R hY => ?_
       have za : z (n + 1) = some (.cells [AA 0]) := k4 _ _ (by rw [AD _ _ (by omega)]; exact hGa 0)
       have zm : z m = some (.cells [AA 0]) := k4 _ _ (AC _ _ _)
       let D : Nat → Prop := fun o => o = n + 1 ∨ o = m ∨ o = m3
       let J : Nat → Hp → Nat → Prop := fun c hh mm => m3 < mm ∧ c ≤ l.length ∧ hh (n + 1) = some (.cells [AA 0]) ∧ hh m = some (.cells [AA c]) ∧ hh m3 = some (.loop (R .ready none))
       let Jx : Hp → Nat → Prop := fun hh mm => m3 < mm ∧ hh (n + 1) = some (.cells [AA 16]) ∧ hh m3 = some (.loop (R .done (some .ret)))
       have Y : YS E1 yl l.length J Jx D := by
        refine ⟨fun c y hh mm hJ => ?_, ?_, ?_⟩
        · obtain ⟨g0, gc, g1, g2, g3⟩ := hJ
          have q1 : n + 1 ≠ mm := by omega
          have q2 : m ≠ mm := by omega
          have q3 : m3 ≠ mm := by omega
          have q3' := q3.symm
          have q4 : m ≠ m3 := by omega
          have q5 : n + 1 ≠ m3 := by omega
          have q6 : n + 1 ≠ m := by omega
          have w2 := wS c (by omega)
          refine hY _ _ _ _ g3 rfl (H8 ?_)
          by_cases hc : c + 1 ≤ l.length
          · have hc' : ¬ (((l.length : Nat) : Int) < ((c + 1 : Nat) : Int)) := by omega
            simp [go_sem, JX, A7.enc, AC, AD, g2, g3, q4, w2, hc', Hh, -Int.natCast_add]
            refine ⟨by rw [AD _ _ q4.symm, AC], fun o g1 g2 => ?_, hc, ?_⟩
            · have e1 : o ≠ m := fun e => g1 (.inr (.inl e))
              have e2 : o ≠ m3 := fun e => g1 (.inr (.inr e))
              have e3 : o ≠ mm := by omega
              simp [hset, e1, e2]
            · exact ⟨by omega, hc, by simp [hset, q5, q6, g1], by simp [hset, q4], by simp [hset]⟩
          · have hc' : (((l.length : Nat) : Int) < ((c + 1 : Nat) : Int)) := by omega
            simp [go_sem, JX, A7.enc, AC, AD, g1, g2, g3, q4, q5, q6, w2, hc', Hh, -Int.natCast_add]
            refine ⟨by rw [AD _ _ q5.symm, AD _ _ q4.symm, AC], fun o g1 g2 => ?_, ?_⟩
            · have e0 : o ≠ n + 1 := fun e => g1 (.inl e)
              have e1 : o ≠ m := fun e => g1 (.inr (.inl e))
              have e2 : o ≠ m3 := fun e => g1 (.inr (.inr e))
              have e3 : o ≠ mm := by omega
              simp [hset, e0, e1, e2]
            · exact ⟨by omega, by simp [hset, q5], by simp [hset]⟩
        · rintro c hh mm h' m' ⟨g0, gc, g1, g2, g3⟩ hmm hD
          exact ⟨by omega, gc, by rw [hD _ (.inl rfl)]; exact g1, by rw [hD _ (.inr (.inl rfl))]; exact g2, by rw [hD _ (.inr (.inr rfl))]; exact g3⟩
        · rintro c hh mm ⟨g0, gc, g1, g2, g3⟩ o (rfl | rfl | rfl) <;> omega
       have hkm3 : k ≠ m3 := by omega
       refine ZT (d270 Y l hl (id := x.id) (k := k) (by rw [AD _ _ hkm3]; exact k3) (by rintro (g | g | g) <;> omega) ⟨by omega, K2 _, by rw [AD _ _ (by omega)]; exact za, by rw [AD _ _ (by omega)]; exact zm, AC _ _ _⟩) ?_
       rintro v h' m' ⟨hm', hfr, ⟨c, g0, gc, g1, g2, g3⟩ | ⟨g0, g1, g3⟩⟩
       · refine ⟨_, _, g3, by simp, ?_⟩
         simp [go_sem]
         refine ⟨by omega, fun o y e => ?_⟩
         have o1 : o < n + 2 := hGb 0 o y e
         by_cases o2 : o = n + 1
         · subst o2; rw [AD _ _ (by omega), g1, ← e, hGa]
         · rw [AD _ _ (by omega), hfr o (by rintro (g | g | g) <;> omega) (by omega) (by omega), AD _ _ (by omega)]
           exact k4 _ _ ((AD _ _ (by omega)).trans e)
       · refine ⟨_, _, g3, by simp, ?_⟩
         simp [go_sem]
         rw [AD _ _ (by omega : n + 1 ≠ m3), g1]
         refine ⟨_, rfl, GG ho (fun o y e => ?_) (by simp [closed]) ⟨16, rfl⟩⟩
         have o1 : o < n := hHb o y e
         rw [AD _ _ (by omega), hfr o (by rintro (g | g | g) <;> omega) (by omega) (by omega), AD _ _ (by omega)]
         exact k4 _ _ ((AD _ _ (by omega)).trans (hGk 0 _ _ e))
     · refine AK ?_
       simp [go_sem, w1, Jo, -Int.natCast_add]
       exact ⟨i + 1, by omega, ⟨by omega, hm⟩, rfl⟩
   · refine AK ?_
     simp [go_sem, hlt, Jo, hm]
 refine AK ?_
 simp [go_sem, hGa, hGs]
 exact out _ _
structure AI.sizedT (s : AI) : Prop extends AI.sized s where
 tpl : ∀ x ∈ s.lists, ∀ y ∈ x.levels, y.template.size ≤ 1048576
 com : ∀ x ∈ s.comments, x.author.size ≤ 1048576 ∧ x.text.size ≤ 1048576
 var : ∀ x ∈ s.vars, x.name.size ≤ 1048576 ∧ x.value.size ≤ 1048576
theorem t83s (s : AI) (hs : s.sizedT) : TC 83 [s.enc] E5 :=
 t83 s (t146 _ hs.styles hs.props)
  (t147 _ hs.lists fun i hi => t210 _ hs.lists i hi (t212 _ (hs.levels _ (Kn hi)) fun x hx k => t271 x.template (hs.tpl _ (Kn hi) x hx) k))
  (t148 _ hs.comments fun i hi => t213 _ hs.comments hs.com i hi)
  (t149 _ hs.vars fun i hi => t218 _ hs.vars hs.var i hi)
structure AH.sizedT (B N : Nat) (d : AH) : Prop where
 flow : Ex AF.sized B N d.flow
 «end» : d.«end».sized
 revs : d.revs.length ≤ 1048576
 authors : ∀ r ∈ d.revs, r.author.size ≤ 1048576
 settings : d.settings.sizedT
theorem t12s (d : AH) {B N : Nat} (hB : B ≤ 1048576) (hd : d.sizedT B N) : TC 12 [d.enc] (Ph N d) :=
 t12 d hB hd.flow (t24 d hB hd.flow hd.end hd.settings.styles hd.settings.lists hd.revs hd.authors (t83s _ hd.settings))
structure Q6 (h : AF) : Prop where
 move : h.move = 0
 dels : h.dels = []
 layers : h.layers = []
theorem c44 (x : AF) (hx : Q6 x) : PC 44 [x.enc] (.imm 0 [] true) := by
 intro h n
 refine gq Tryz.func44 rfl fun ho => ?_
 have hh : ∀ a b c, ∀ o y, h o = some y → hset (hset (hset h n a) (n + 1) b) (n + 1) c o = some y := fun a b c => AN ho (by omega) (AN ho (by omega) (AN ho (JO _) AB))
 obtain ⟨h1, h2, _⟩ := hx
 simp [go_sem, AF.enc, AF.flat, AC, AD, h1, h2]
 refine Aq 1 (α := Unit) (fun k => [(3, .imm 0 [] true), (22, Aa []), (23, AA 0), (24, AA 0)]) (fun _ => h) (fun k m => n ≤ m) (fun k => 0) () ?_ ?_ ?_ ?_
 · omega
 · simp [Am]
 · exact hh _ _ _
 rintro _ m hm
 simp [go_sem]
 exact Ax ho AB rfl rfl
theorem d43 (p : B6) (hp : Q6 p.head) (t : Nat) {H : Hp} {n : Nat} : BN Tryz.prog 43 [p.enc, .ptr t 0] H n (fun v h' n' => v = .tup [] ∧ h' = H ∧ n' = n) := by
 refine Da Tryz.func43 rfl fun ho => ?_
 refine AZ 1 [(1, .ptr t 0), (2, .iptr (p.head.flat ++ [.bool p.mid, AA p.units]))] H n ?_ (fun m hm => ?_)
 · simp [go_sem, B6.enc, AF.flat, Jo]
   refine ⟨AW (ho.none (JO n)) (by simp [hset]), AJ (fun j z e => (ho j z e).1) AB⟩
 refine AK ?_
 simp [go_sem, AF.flat]
 refine Y4 (by simpa [AF.enc, AF.flat] using c44 p.head hp) ?_
 simp [go_sem]
 refine Aq 0 (α := Unit) (fun k => [(8, .imm 0 [] true), (9, AA 0), (10, AA 0)]) (fun _ => H) (fun k m => n ≤ m) (fun k => 0) () ?_ ?_ AB ?_
 · omega
 · simp [Am, Jo]
 rintro _ m hm
 simp [go_sem]
 exact CY ho (by simp [closed, closedL]) AB
def NP : Unit → Nat → Option BY := fun _ _ => none
theorem Tg (s : Unit) (H : Hp) : As NP s H = H := rfl
theorem v43 (n0 t : Nat) : Vis NP n0 43 [] [.ptr t 0] (fun s _ => s) Q6 where
 lt _ _ _ := rfl
 dom _ _ _ _ := rfl
 cl _ _ _ e := by cases e
 call s p H n hp hn hs := by rw [Tg]; exact d43 p hp t
theorem c48 (a x : Int) : PC 48 [AA x, .iptr [AA a]] (.bool (x == a)) := by
 intro h n
 refine gq Tryz.func48 rfl fun ho => ?_
 simp [go_sem]
 exact Ax ho AB (by by_cases e : x = a <;> simp [e]) rfl
theorem c254 : PC 254 [.imm 2 [] false, AA 0, AA 0, .fn (.func 120) [] []] (.tup []) := by
 intro h n
 refine gq Tryz.func254 rfl fun ho => ?_
 simp [go_sem]
 refine Aq 1 (α := Unit) (fun k => [(2, AA 0), (8, AA 1)]) (fun _ => h) (fun k m => n ≤ m) (fun k => 0) () ?_ ?_ AB ?_
 · omega
 · simp [Am, show IntKind.i64.wrap 1 = 1 from by decide, Jo]
 rintro _ m hm
 simp [go_sem]
 exact Ax ho AB rfl rfl
theorem c188 : PC 188 [.imm 2 [] false, AA 0, .fn (.func 120) [] []] (.tup []) := by
 intro h n
 refine gq Tryz.func188 rfl fun ho => ?_
 simp [go_sem]
 refine Aq 1 (α := Unit) (fun k => [(0, .imm 2 [] false), (1, AA 0), (2, .fn (.func 120) [] []), (6, AA 20), (7, AA 0), (8, AA 20)]) (fun _ => h) (fun k m => n ≤ m) (fun k => 0) () ?_ ?_ AB ?_
 · omega
 · simp [Am]
 rintro _ m hm
 simp [go_sem]
 refine Y4 c254 ?_
 simp [go_sem]
 refine Aq 1 (α := Unit) (fun k => [(1, AA 0), (6, AA 20)]) (fun _ => h) (fun k m => n ≤ m) (fun k => 0) () ?_ ?_ AB ?_
 · omega
 · simp [Am]
 rintro _ m hm
 simp [go_sem]
 exact Ax ho AB rfl rfl
theorem c119 : PC 119 [.imm 2 [] false, .fn (.func 120) [] []] (.tup []) := by
 intro h n
 refine gq Tryz.func119 rfl fun ho => ?_
 simp [go_sem]
 refine Y4 c188 ?_
 simp [go_sem]
 exact Ax ho AB rfl rfl
set_option maxHeartbeats 2000000 in
theorem S8 (l : List Av) (hl0 : l ≠ []) (hl : l.length ≤ 1048576) (r : Av) {H : Hp} {n o k : Nat} {full : Bool} (hH : H o = some (.cells ((l.map Av.enc).flatMap SV.cells))) (hk : H k = some (.cells [AA r.id, .str r.author, AA r.time])) (hok : o ≠ k) :
 BN Tryz.prog 117 [.sl o 0 3 l.length full, AA l.length, .sl k 0 3 1 true] H n (fun v h' n' => v = Aj (l ++ [r]) ∧ h' = hset H o none ∧ n' = n) := by
 refine Da Tryz.func117 rfl fun ho => ?_
 have hHb := ho.lt
 have hfl : flat H (.sl o 0 3 l.length full) = some ((l.map Av.enc).flatMap SV.cells) := by
  have : ((l.map Av.enc).flatMap SV.cells).length = l.length * 3 := by rw [BK (z := 3) (Av.E.size l)]; simp
  simp [flat, hH, Bm, ← this, -List.length_flatMap]
 have hfl2 : flat H (.sl k 0 3 1 true) = some [AA r.id, .str r.author, AA r.time] := by simp [flat, hk, Bm]
 have ht : BC Tryz.prog 30 = some 42 := by simp [go_sem]
 have hap : AT Tryz.prog H n .append [30, 30] [.sl o 0 3 l.length full, .sl k 0 3 1 true] = some { val := .sl n 0 3 (l.length + 1) false, upd := if full then none else some (o, none), new := some (.cells ((l.map Av.enc).flatMap SV.cells ++ [AA r.id, .str r.author, AA r.time])) } := by
  have hz : Bk Tryz.prog 42 = 3 := by simp [go_sem]
  have hst : (BP Tryz.prog 42).storable = true := by simp [go_sem]
  have hzl : (BP Tryz.prog 42).cells.length = 3 := by simp [go_sem]
  have hb : Bj Tryz.prog 42 ≤ 65536 := by simp [go_sem]
  have hro : DM (l.length + 1) (Bj Tryz.prog 42) = true := by simp [DM, hb]; omega
  simp [AT, ht, C5, hz, hst, hzl, Ea, hfl, hfl2, ID, hro, Gp, G9]
 have fin : ∀ (h' : Hp) (n' : Nat), h' = hset (match (if full then none else some (o, (none : Option BY))) with | some (j, x) => hset H j x | none => H) n (some (.cells ((l.map Av.enc).flatMap SV.cells ++ [AA r.id, .str r.author, AA r.time]))) → CE n h' n' (.sl n 0 3 (l.length + 1) false) (fun v h' n' => v = Aj (l ++ [r]) ∧ h' = hset H o none ∧ n' = n) := fun h' n' e => by
  have hon := hHb o _ hH
  have hcs : ((l ++ [r]).map Av.enc).flatMap SV.cells = (l.map Av.enc).flatMap SV.cells ++ [AA r.id, .str r.author, AA r.time] := by simp [Av.enc, SV.cells]
  refine .inr ⟨1, Aj (l ++ [r]), hset H o none, ?_, Av.E.imm _ _ _ _, fun j y e2 => ?_, rfl, rfl, rfl⟩
  · have := DN (h' := h') (h := hset H o none) (k := 0) (z := 3) (es := (l ++ [r]).map Av.enc) (full := false) (full' := false) (o := n) (by rw [AD _ _ (by omega)]; exact ho.none (JO n)) (by simp) (by rw [e, AC, hcs]) (Av.E.size _)
    rw [Kj, Ye] at this; exact this
  · by_cases e1 : j = o
    · subst e1; rw [AC] at e2; cases e2
    · rw [AD _ _ e1] at e2
      refine ⟨?_, ho j y e2⟩
      have := hHb j y e2
      rw [e, AD _ _ (by omega)]
      cases full
      · simp only [KC, if_false]; rw [AD _ _ e1]; exact e2
      · exact e2
 refine AK ?_
 have w : ¬ l.length = 0 := by simpa using hl0
 simp [go_sem, hl0]
 rw [hap]
 cases full <;> simp [go_sem] <;> exact fin _ _ (by simp)
def Q7 : Tr := (.pure 0 (.pure 2 (.two 1 3 (.one 3 (.one 4 (.one 5 (.pure 6 (.pure 7 .nil))))) (.two 1 4 (.one 4 (.one 5 (.pure 6 (.pure 7 .nil)))) (.one 1 (.one 5 (.pure 6 (.pure 7 .nil))))))))
section
variable {P : Program} {E : By} {evs : Operand → SV} {o : Oper} {h : Hp} {n : Nat} {K : SV → Hp → Nat → Prop}
end
section
variable {E : By} {evs : Operand → SV} {o : Oper} {h : Hp} {n : Nat} {K : SV → Hp → Nat → Prop}
end
section
variable {E : By} {evs : Operand → SV} {o : Oper} {h : Hp} {n : Nat} {K : SV → Hp → Nat → Prop}
end
section
variable {E : By} {evs : Operand → SV} {o : Oper} {h : Hp} {n : Nat} {K : SV → Hp → Nat → Prop}
end
section
variable {P : Program} {E : By} {evs : Operand → SV} {o : Oper} {h : Hp} {n : Nat} {K : SV → Hp → Nat → Prop}
theorem SY {t : TypeId} {x : Operand} {j off z len cap : Nat} (ho : o.op = .call { callee := .builtin .len, args := #[x], argTypes := #[t] }) (ht : (BC P t).isSome = true) (hx : evs x = .slc j off z len cap) (hk : K (.int .i64 len) h n) : EQ E P evs o h n K := by
 refine ⟨by rw [ho]; simp, fun c ev _ _ R F hv => ?_⟩
 have hvx := hv x
 rw [hx, V] at hvx
 obtain ⟨b, st, _, hu, _⟩ := hvx
 obtain ⟨e, he⟩ := YF.1 ht
 refine ⟨.int .i64 len, .int .i64 len, h, n, c, Bg (P := P) (ev := ev) ho _ _ _ fun cs => ?_, by rw [V], R, F, Zi n c, hk⟩
 simp [builtin, Builtin.len_, AM (A5 he), goInt, hu]
theorem Of {t : TypeId} {x : Operand} {j off z len cap : Nat} (ho : o.op = .call { callee := .builtin .cap, args := #[x], argTypes := #[t] }) (ht : (BC P t).isSome = true) (hx : evs x = .slc j off z len cap) (hk : K (.int .i64 cap) h n) : EQ E P evs o h n K := by
 refine ⟨by rw [ho]; simp, fun c ev _ _ R F hv => ?_⟩
 have hvx := hv x
 rw [hx, V] at hvx
 obtain ⟨b, st, _, hu, _⟩ := hvx
 obtain ⟨e, he⟩ := YF.1 ht
 refine ⟨.int .i64 cap, .int .i64 cap, h, n, c, Bg (P := P) (ev := ev) ho _ _ _ fun cs => ?_, by rw [V], R, F, Zi n c, hk⟩
 simp [builtin, Builtin.cap_, AM (A5 he), goInt, hu]
theorem OZ {isS : Bool} {len cap l m : Nat} {lo hi : Option Value} (hlo : (lo = none ∧ l = 0) ∨ ∃ i, lo = some (.int i l)) (hhi : (hi = none ∧ m = len) ∨ ∃ i, hi = some (.int i m))
 (h1 : l ≤ m) (h2 : m ≤ cap) (w : World) : (Instr.sliceBounds isS len cap lo hi none).run P w = .ok (l, m, cap) w := by
 have hb := fun (code : BoundsCode) (i : IntKind) => FG (P := P) (i := i) (n := (l : Int)) (y := m) (code := code) (by omega) (by omega) w
 have IK := fun (code : BoundsCode) (i : IntKind) => FG (P := P) (i := i) (n := (m : Int)) (y := cap) (code := code) (by omega) (by omega) w
 simp only [Xj] at hb IK
 rcases hlo with ⟨rfl, hl⟩ | ⟨i, rfl⟩ <;> rcases hhi with ⟨rfl, hm⟩ | ⟨j, rfl⟩
 · simp [Instr.sliceBounds, hl, hm]
 · simp [Instr.sliceBounds, hl, IK]
 · subst hm; simp [Instr.sliceBounds, hb]
 · simp [Instr.sliceBounds, hb, IK]
theorem Dm {t e : TypeId} {x : Operand} {lo hi : Option Operand} {j off z len cap l m : Nat} (ho : o.op = .slice t x lo hi none) (ht : BC P t = some e) (hz : Bk P e = z) (hz0 : z ≠ 0) (hx : evs x = .slc j off z len cap)
 (hlo : (lo = none ∧ l = 0) ∨ ∃ y, lo = some y ∧ evs y = .int .i64 l) (hhi : (hi = none ∧ m = len) ∨ ∃ y, hi = some y ∧ evs y = .int .i64 m) (hlm : l ≤ m) (hm : m ≤ cap) (hl2 : l < cap ∨ l = 0)
 (hk : K (.slc j (off + l * z) z (m - l) (cap - l)) h n) : EQ E P evs o h n K := by
 refine ⟨by rw [ho]; simp, fun c ev _ _ R F hv => ?_⟩
 have hvx := hv x
 rw [hx, V] at hvx
 obtain ⟨b, st, hρ, hu, hcap, hroom⟩ := hvx
 obtain ⟨ii, hi', hsz⟩ := EJ (P := P) (e := e) (by omega)
 have hL : (lo.map ev = none ∧ l = 0) ∨ ∃ i, lo.map ev = some (.int i l) := by
  rcases hlo with ⟨rfl, e1⟩ | ⟨y, rfl, e1⟩
  · exact .inl ⟨rfl, e1⟩
  · have := hv y; rw [e1] at this; exact .inr ⟨.i64, by simp [DI this]⟩
 have hH : (hi.map ev = none ∧ m = len) ∨ ∃ i, hi.map ev = some (.int i m) := by
  rcases hhi with ⟨rfl, e1⟩ | ⟨y, rfl, e1⟩
  · exact .inl ⟨rfl, e1⟩
  · have := hv y; rw [e1] at this; exact .inr ⟨.i64, by simp [DI this]⟩
 have hr := GW (P := P) (A5 ht) ⟨ii, hi', hsz.symm.trans hz⟩ (some ⟨b, st + off, none⟩) len cap l m cap (OZ (isS := true) hL hH hlm hm c.w)
 rw [← hu] at hr
 refine ⟨_, .slc j (off + l * z) z (m - l) (cap - l), h, n, c, by simp [execOp, ho, hr]; rfl, ?_, R, F, Zi n c, hk⟩
 rw [V]
 refine ⟨b, st, hρ, ?_, by omega, ?_⟩
 · split
   · rename_i e1
     have : l = 0 := by omega
     subst this; simp
   · simp [FO, Y6]
 · have : l * z + (cap - l) * z = cap * z := by rw [← YY]; congr 1; omega
   omega
theorem SH {c : Cx} {q off : Nat} {cs xs : List SV} {ty : Option TypeId} {us : List Value} {b st : Nat} (R : B5 h c) (ho : h q = some (.cells cs ty)) (hρ : c.ρ q = some (b, st))
 (hle : off ≤ cs.length) (hge : cs.length ≤ off + xs.length) (hroom : st + off + us.length ≤ rm c.w b) (hx : AY (V c) xs us) (h1 : ∀ x ∈ us, x.oneCell' = true) :
 ∃ w', (storeCells ⟨b, st + off, none⟩ us).run P c.w = .ok () w' ∧ B5 (hset h q (some (.cells (cs.take off ++ xs) ty))) { c with w := w' } ∧ Dc c { c with w := w' } := by
 obtain ⟨b', st', arr, e, vs, g1, g2, g3, g4, g5, g6⟩ := R.obj _ _ ho
 rw [hρ] at g1; cases g1
 have hl := hx.length
 have hl2 := g4.length
 have hrm : rm c.w b = arr.size := by simp [rm, g2]
 rw [hrm] at hroom
 have hrun := run_storeCells_at (P := P) b (st + off) e us 0 arr c.w g2 (by simpa using hroom) h1
 simp only [Z7] at hrun
 refine ⟨_, hrun, ?_⟩
 have hnew := setRow_heap c.w b arr (arr.toList.take (st + off) ++ us ++ arr.toList.drop (st + off + us.length)).toArray e (0, 0) g2
 refine R.write ho hρ (Hm _ _ _) (fun b' hb' => HD _ _ _ hb') ?_ rfl rfl (fun E => ?_)
 · simp only [rm, g2, hnew]; simp; omega
 · refine ⟨b, st, _, e, vs.take off ++ us, hρ, hnew, fun i x hx => ?_, ZR E (Zd (g4.take off) hx), fun x hx => ?_, g6⟩
   · simp only [List.getElem?_toArray, KF]
     have eA : (arr.toList.take (st + off)).length = st + off := by simp; omega
     have eV : (vs.take off).length = off := by simp; omega
     by_cases hi : i < off
     · rw [Z2 (by omega)] at hx ⊢
       rw [Yt, if_pos (by omega)] at hx ⊢
       simpa using g3 i x hx
     · rw [Yq (by omega), eV] at hx
       have hi2 := (Ky.1 hx).1
       rw [Yq (by omega), eA, Z2 (by omega), show st + i - (st + off) = i - off by omega]
       exact hx
   · rcases Kz.1 hx with hx | hx
     · exact g5 x (Yf hx)
     · exact h1 x hx
theorem Qo {t t2 e : TypeId} {x y : Operand} {j z offd dl dcap offs sl scap k : Nat} {cs : List SV} {ty : Option TypeId} (ho : o.op = .call { callee := .builtin .copy, args := #[x, y], argTypes := #[t, t2] }) (ht : BC P t = some e) (hz : Bk P e = z) (hz0 : z ≠ 0)
 (hx : evs x = .slc j offd z dl dcap) (hy : evs y = .slc j offs z sl scap) (hj : h j = some (.cells cs ty)) (hk : Nat.min sl dl = k) (hin : offs + k * z ≤ cs.length) (hle : offd ≤ cs.length) (hge : cs.length ≤ offd + k * z)
 (hK : K (.int .i64 k) (hset h j (some (.cells (cs.take offd ++ (cs.drop offs).take (k * z)) ty))) n) : EQ E P evs o h n K := by
 refine ⟨by rw [ho]; simp, fun c ev _ _ R F hv => ?_⟩
 have hvx := hv x
 have hvy := hv y
 rw [hx, V] at hvx
 rw [hy, V] at hvy
 obtain ⟨b, st, hρ, hu, hcap, hroom⟩ := hvx
 obtain ⟨b', st', hρ', hu', hcap', hroom'⟩ := hvy
 rw [hρ] at hρ'; cases hρ'
 obtain ⟨ii, hi', hsz⟩ := EJ (P := P) (e := e) (by omega)
 obtain ⟨b', st', arr, e', vs, g1, g2, g3, g4, g5, g6⟩ := R.obj _ _ hj
 rw [hρ] at g1; cases g1
 have hvl := g4.length
 have hul : ((vs.drop offs).take (k * z)).length = k * z := by simp; omega
 have hxl : ((cs.drop offs).take (k * z)).length = k * z := by simp; omega
 have hone : ∀ x ∈ (vs.drop offs).take (k * z), x.oneCell' = true := fun x hx => g5 x (Yo (Yf hx))
 have hkd : k * z ≤ dl * z := YQ _ (by rw [← hk]; exact Nat.min_le_right _ _)
 have hdc : dl * z ≤ dcap * z := YQ _ hcap
 obtain ⟨w', hst, R', X⟩ := SH (P := P) (off := offd) R hj hρ hle (by rw [hxl]; exact hge) (by rw [hul]; omega) ((g4.drop offs).take (k * z)) hone
 have hfirst : (Builtin.firstCells z k (.slice (some ⟨b, st + offs, none⟩) sl scap)).run P c.w = .ok ((vs.drop offs).take (k * z)).toArray c.w := by
  have := run_loadCells_list (P := P) c.w ⟨b, st + offs, none⟩ ((vs.drop offs).take (k * z)) (fun i v hv => by
   rw [Ch rfl]
   rw [Yt] at hv
   split at hv
   · rw [Yp] at hv
     have := g3 _ _ hv
     simp only [World.cell?, g2, Y6]
     simpa using this
   · cases hv)
  rw [hul] at this
  simpa [Builtin.firstCells] using this
 refine ⟨.int .i64 k, .int .i64 k, _, n, _, Bg (P := P) (ev := ev) ho _ _ _ fun c2 => ?_, by rw [V], R', F, ⟨X, JO _, fun _ _ => rfl⟩, hK⟩
 have hsz2 : ii.size = z := hsz.symm.trans hz
 simp [builtin, Builtin.copy_, AM (A5 ht), sizeOf, typeInfo, hi', hsz2, Builtin.lenOf, hu, hu', hk, hfirst, hst, goInt]
theorem Oe {t tn e : TypeId} {x y : Operand} {j off z len cap k : Nat} {cs : List SV} {ty : Option TypeId} (ho : o.op = .call { callee := .builtin .append, args := #[x, y], argTypes := #[t, tn] }) (ht : BC P t = some e) (htn : L8 P tn = some .i64)
 (hz : Bk P e = z) (hz0 : z ≠ 0) (hst : (BP P e).storable = true) (hzl : (BP P e).cells.length = z) (hby : Bj P e ≤ 65536) (hx : evs x = .slc j off z len cap) (hy : evs y = .int .i64 k) (hk0 : 0 < k) (hgt : cap < len + k) (hbig : len + k ≤ 1073741824)
 (hj : h j = some (.cells cs ty)) (hin : off + len * z ≤ cs.length)
 (hK : K (.sl n 0 z (len + k) false) (hset h n (some (.cells ((cs.drop off).take (len * z) ++ (List.replicate k (BP P e).cells).flatten)))) (n + 1)) : EQ E P evs o h n K := by
 refine ⟨by rw [ho]; simp, fun c ev _ _ R F hv => ?_⟩
 have hvx := hv x
 have hvy := hv y
 rw [hx, V] at hvx
 rw [hy] at hvy
 have hvy := DI hvy
 obtain ⟨b, st, hρ, hu, hcap, hroom⟩ := hvx
 obtain ⟨ii, hi, hsz⟩ := EJ (P := P) (e := e) (by omega)
 have hsz2 : ii.size = z := hsz.symm.trans hz
 obtain ⟨i', zv, hi', hzz, hze⟩ := CG hst
 rw [hi] at hi'; cases hi'
 have hvz := C8 c zv
 rw [← hze] at hvz
 have hzsize : zv.cells.size = z := by have := (hvz.cells hst).1.length; simp at this; omega
 have hbb : ii.bytes ≤ 65536 := by have : Bj P e = ii.bytes := by simp [Bj, Program.bytesOf, hi]
                                   omega
 obtain ⟨b', st', arr, e', vs, g1, g2, g3, g4, g5, g6⟩ := R.obj _ _ hj
 rw [hρ] at g1; cases g1
 have hvl := g4.length
 have hul : ((vs.drop off).take (len * z)).length = len * z := by simp; omega
 obtain ⟨zr, z1⟩ := Gq hvz hst k
 have BV : (Builtin.firstCells ii.size len (.slice (some ⟨b, st + off, none⟩) len cap)).run P c.w.drew = .ok ((vs.drop off).take (len * z)).toArray c.w.drew := by
  have := run_loadCells_list (P := P) c.w.drew ⟨b, st + off, none⟩ ((vs.drop off).take (len * z)) (fun i v hv => by
   rw [Ch rfl]
   rw [Yt] at hv
   split at hv
   · rw [Yp] at hv
     have := g3 _ _ hv
     simp only [World.cell?, Fu, g2, Y6]
     simpa using this
   · cases hv)
  rw [hul] at this
  rw [hsz2]
  simpa [Builtin.firstCells] using this
 have hmul : (len + k) * ii.bytes ≤ 1073741824 * 65536 := Nat.mul_le_mul hbig hbb
 have hmul2 : k * ii.bytes ≤ 1073741824 * 65536 := Nat.mul_le_mul (by omega) hbb
 have hr := Lib.run_append_grow_zeros (P := P) c.w t tn o.type e ii zv .i64 .i64 (A5 ht) (F3 htn) hi hzz (some ⟨b, st + off, none⟩) len cap _ BV k hk0 (by omega) hgt (by omega) (by omega) (growslice_fits hgt (by omega))
 have hcell := EX zv.cells (by omega) k
 have hfr : c.ρ n = none := F n (JO n)
 have Rn := Ju (k := n) (e := e) (ty := none) (cs := (cs.drop off).take (len * z) ++ (List.replicate k (BP P e).cells).flatten) (vs := (vs.drop off).take (len * z) ++ (Builtin.zeroCells zv.cells k).toList) (arr := ((vs.drop off).take (len * z)).toArray ++ Builtin.zeroCells zv.cells k ++ Builtin.zeroCells zv.cells (grownCap c.w (len + k) cap e - (len + k))) R.drew (by exact hfr)
  (Zd (ZR c.drew_ext ((g4.drop off).take (len * z))) (by rw [show (Builtin.zeroCells zv.cells k).toList = (List.replicate k zv.cells.toList).flatten from hcell]; exact ZR c.drew_ext zr))
  (fun x hx => by
    rcases Kz.1 hx with hx | hx
    · exact g5 x (Yo (Yf hx))
    · rw [show (Builtin.zeroCells zv.cells k).toList = (List.replicate k zv.cells.toList).flatten from hcell] at hx; exact z1 x hx)
  (fun i x hx => by
    have hlt := (Ky.1 hx).1
    rw [Z8 (by simpa using hlt)]
    rw [← Array.getElem?_toList]
    simpa using hx) Ty.none
 have En := c.drew_ext.trans (c.drew.alloc_ext n (.cells (((vs.drop off).take (len * z)).toArray ++ Builtin.zeroCells zv.cells k ++ Builtin.zeroCells zv.cells (grownCap c.w (len + k) cap e - (len + k))) e) (by exact hfr))
 have hcap2 : len + k ≤ grownCap c.w (len + k) cap e := by unfold grownCap; exact Xm _ _
 refine ⟨.slice (some ⟨c.w.heap.size, 0, none⟩) (len + k) (grownCap c.w (len + k) cap e), .sl n 0 z (len + k) false, _, n + 1, _, Bg (P := P) (ev := ev) ho _ _ _ fun c2 => ?_, ?_, Rn, ?_, ⟨En, by omega, fun j hj => ?_⟩, hK⟩
 · simp only [builtin, Sem.run_bind, List.map_toArray, Y3, YR, hu, hvy]
   rw [hr]; rfl
 · rw [V]
   refine ⟨c.w.heap.size, 0, grownCap c.w (len + k) cap e, by simp [Cx.alloc, Cx.drew, Fu], by simp, hcap2, by simp, ?_⟩
   have e6 : (len + k) * z + (grownCap c.w (len + k) cap e - (len + k)) * z = grownCap c.w (len + k) cap e * z := by rw [← YY]; congr 1; omega
   have e8 : len * z + k * z = (len + k) * z := by rw [YY]
   have e7 : rm (c.drew.alloc n (.cells (((vs.drop off).take (len * z)).toArray ++ Builtin.zeroCells zv.cells k ++ Builtin.zeroCells zv.cells (grownCap c.w (len + k) cap e - (len + k))) e)).w c.w.heap.size =
    (((vs.drop off).take (len * z)).toArray ++ Builtin.zeroCells zv.cells k ++ Builtin.zeroCells zv.cells (grownCap c.w (len + k) cap e - (len + k))).size := by
    simp [rm, Cx.alloc, Cx.drew, Bh, Fu]
   rw [e7]
   simp only [Array.size_append, Xi, hul, Builtin.zeroCells, Array.size_map, Array.size_range, hzsize]
   omega
 · intro j hj
   have : j ≠ n := by omega
   simp [Cx.alloc, Cx.drew, this]
   exact F j (by omega)
 · have : j ≠ n := by omega
   simp [Cx.alloc, Cx.drew, this]
def isX (o : Oper) : Bool := match o.op with | .call { callee := .value (.func f), .. } => f == 183 | _ => false
def JS (E : By) (P : Program) (ops : Array Oper) (Q : SA → Hp → Nat → Prop) : List Oper → SA → Hp → Nat → Prop
 | [], sa, h, n => Q sa h n
 | o :: rest, sa, h, n => o.guard = none ∧
  if isX o = true then EQ E P (GZ sa) o h n fun v h' n' => JS E P ops Q rest (Dl sa o.dst v) h' n' else KR E P o sa h n fun v h' n' => JS E P ops Q rest (Dl sa o.dst v) h' n'
variable {N : Nat} {ops : Array Oper}
theorem KP {Q : SA → Hp → Nat → Prop} (Qp : Cl) (hQ : ∀ sa h n, Q sa h n → Qp .normal sa h n) : ∀ (l : List Oper) (sa : SA) (h : Hp) (n n0 : Nat) (c0 c : Cx) (a : Act), (∀ o ∈ l, o.dst.all (· < N) = true) →
 JS E P ops Q l sa h n → E.inv c → B5 h c → Fr n c → FR E N sa c a → F5 n0 c0 n c → wpListIn E.fc 0 P ops (RI E N n0 c0 Qp) l a c.w
 | [], sa, h, n, n0, c0, c, a, _, H, I, R, F, A, X => ⟨sa, h, n, c, hQ _ _ _ H, rfl, R, F, A, X⟩
 | o :: rest, sa, h, n, n0, c0, c, a, hd, H, I, R, F, A, X => by
  have hdo : ∀ d, o.dst = some d → d < N := fun d e => by have := hd o (by simp); rw [e] at this; simpa using this
  simp only [JS] at H
  simp only [wpListIn]
  obtain ⟨hg, H⟩ := H
  have hg2 : DR ops sa o = some true := by simp [DR, hg]
  rw [Gf A hg2, if_pos rfl]
  have fin : ∀ v h' n' c' u, JS E P ops Q rest (Dl sa o.dst v) h' n' → V c' v u → B5 h' c' → Fr n' c' → F5 n c n' c' → wpListIn E.fc 0 P ops (RI E N n0 c0 Qp) rest (a.put o.dst u) c'.w := fun v h' n' c' u hk hv R' F' X' =>
   KP Qp hQ rest _ h' n' n0 c0 c' _ (fun o ho => hd o (by simp [ho])) hk (E.ext X'.ext I) R' F' ((A.ext X'.ext).put hdo hv) (X.trans X')
  split at H
  · obtain ⟨hd2, H⟩ := H
    refine ⟨fun _ _ => trivial, ?_⟩
    rw [Oper.semAt_eq _ _ _ hd2]
    obtain ⟨u, v, h', n', c', hr, hv, R', F', X', hk⟩ := H c a.eval (fun _ => rfl) I R F A.ev
    rw [hr]
    exact fin v h' n' c' u hk hv R' F' X'
  · exact Hr H I R F A fun v h' n' c' u hk hv R' F' X' => fin v h' n' c' u hk hv R' F' X'
theorem Nk {id : Nat} {Q : Cl} {sa : SA} {h : Hp} {n : Nat} (H : JS E P ops (Q .normal) ops.toList sa h n) : HN E P N (.region id ops false) Q sa h n := by
 intro hd c a I R F A
 simp only [Code.dok, Ys] at hd
 exact wpIn_region_list (KP Q (fun _ _ _ h => h) _ sa h n n c c a hd H I R F A (Zi n c))
end
section
variable {E : By} {evs : Operand → SV} {o : Oper} {h : Hp} {n : Nat} {K : SV → Hp → Nat → Prop}
theorem NM {f x y : Operand} {ts : Array TypeId} {k j off len cap : Nat} {a b c' : SV} {full : Bool} {ds : List SV} {ty ty' : Option TypeId} (ho : o.op = .call { callee := .value f, args := #[x, y], argTypes := ts }) (hf : evs f = .fn (.func 183) [] [])
 (hx : evs x = .sl k 0 3 1 full) (hy : evs y = .slc j off 3 len cap) (hne : k ≠ j) (hk : h k = some (.cells [a, b, c'] ty)) (hj : h j = some (.cells ds ty')) (hds : ds ≠ []) (hK : K (.bool false) h n) : EQ E Tryz.prog evs o h n K := by
 refine ⟨by rw [ho]; simp, fun c ev _ _ R F hv => ?_⟩
 have hvf := hv f
 have hvx := hv x
 have hvy := hv y
 rw [hf, V] at hvf
 obtain ⟨xs, ys, hvf, h1, h2⟩ := hvf
 simp only [VL] at h1 h2
 subst h1; subst h2
 rw [hx, V] at hvx
 rw [hy, V] at hvy
 obtain ⟨bk, sk, capk, hρk, huk, _⟩ := hvx
 obtain ⟨bj, sj, hρj, huj, _⟩ := hvy
 obtain ⟨b1, s1, arrk, ek, vk, p1, p2, p3, p4, _⟩ := R.obj _ _ hk
 rw [hρk] at p1; cases p1
 obtain ⟨b2, s2, arrj, ej, vj, q1, q2, q3, q4, _⟩ := R.obj _ _ hj
 rw [hρj] at q1; cases q1
 have hb : bk ≠ bj := by
  rintro rfl
  exact hne (R.inj k j _ _ bk sk sj hk hj hρk hρj)
 have hlj : arrj.size ≠ 0 := by
  have hl := q4.length
  have : 0 < ds.length := Y2.2 hds
  have h0 : vj[0]? = some vj[0] := Y1 (by omega)
  have := (KA.1 (q3 _ _ h0)).1
  omega
 obtain ⟨i42, hi42, h3⟩ := Yn.1 (show (Tryz.prog.info? 42).map (·.size) = some 3 by kernel_rfl)
 have hsz : ∀ w, (Go.sizeOf 42).run Tryz.prog w = .ok 3 w := fun w => by simp [sizeOf, typeInfo, hi42, h3]
 have hov := Lib.run_overlaps_apart (P := Tryz.prog) c.w 30 4 42 Tryz.underlying30 3 hsz ⟨bk, sk + 0, none⟩ ⟨bj, sj + off, none⟩ 1 capk len cap hb ek ej arrk.size arrj.size (by simp [World.shape?, p2]) (by simp [World.shape?, q2]) hlj (by simp [World.frozen?, p2]) (by simp [World.frozen?, p2])
 have hcall := run_callFunc_extern (P := Tryz.prog) Tryz.func183 (by kernel_rfl) (by kernel_rfl) (by kernel_rfl) (e := Extern.SlicesOverlaps.overlaps #[30, 30] #[4]) (by kernel_rfl) #[.slice (some ⟨bk, sk + 0, none⟩) 1 capk, .slice (some ⟨bj, sj + off, none⟩) len cap] c.w
 rw [hov] at hcall
 refine ⟨.bool false, .bool false, h, n, c, ?_, by rw [V], R, F, Zi n c, hK⟩
 simp only [Result.andThen_ok] at hcall
 simp [execOp, ho, resolve, Deferred.ofValue, hvf, invoke, huk, huj]
 simpa using hcall
end
theorem Ak.cap {E : By} {P : Program} {f : FuncId} {us : List SV} {o off z len : Nat} {full : Bool} {h : Hp} {n : Nat} {Q : SV → Hp → Nat → Prop} (H : ∀ cap, len ≤ cap → Ak E P f (.slc o off z len cap :: us) h n Q) : Ak E P f (.sl o off z len full :: us) h n Q := by
 refine ⟨(H len (JO _)).1, fun c vs I R F A => ?_⟩
 match vs, A with
 | v :: vs, A =>
  obtain ⟨hv, hA⟩ := A
  rw [V] at hv
  obtain ⟨b, st, cap, h1, h2, h3, _, h4⟩ := hv
  exact (H cap h3).2 c (v :: vs) I R F ⟨by rw [V]; exact ⟨b, st, h1, h2, h3, h4⟩, hA⟩
def Tf : Tr := .pure 0 (.pure 1 (.pure 2 (.pure 3 (.pure 5 (.pure 6 (.two 4 7 (.one 7 (.one 8 .nil)) (.one 4 (.one 8 .nil))))))))
def Br (l : List Av) : List SV := (l.map Av.enc).flatMap SV.cells
theorem GH (l : List Av) : (Br l).length = l.length * 3 := by
 have := BK (z := 3) (Av.E.size l)
 rw [Kj] at this; exact this
theorem Jy (l : List Av) (i : Nat) (hi : i ≤ l.length) : (Br l).take (i * 3) = Br (l.take i) := by
 have h1 : Br l = Br (l.take i) ++ Br (l.drop i) := by
  unfold Br; rw [← YM, ← K1, YG]
 have h2 := GH (l.take i)
 rw [h1, X7 (by rw [h2]; simp; omega), Y8 (by rw [h2]; simp; omega)]
theorem Mf (l : List Av) (i : Nat) (hi : i ≤ l.length) : (Br l).drop (i * 3) = Br (l.drop i) := by
 have h1 : Br l = Br (l.take i) ++ Br (l.drop i) := by
  unfold Br; rw [← YM, ← K1, YG]
 have h2 := GH (l.take i)
 rw [h1, List.drop_append_of_le_length (by rw [h2]; simp; omega), Zg (by rw [h2]; simp; omega)]
 rfl
theorem OX (a b : List Av) : Br (a ++ b) = Br a ++ Br b := by unfold Br; rw [K1, YM]
def Fh (l : List Av) (i : Nat) (r : Av) : List Av := l.take i ++ r :: l.drop i
theorem OG (l : List Av) (i : Nat) (r : Av) (hi : i ≤ l.length) : (Fh l i r).length = l.length + 1 := by unfold Fh; simp; omega
set_option maxHeartbeats 4000000 in
theorem d117c (l : List Av) (hl : l.length ≤ 1048576) (i : Nat) (hi : i < l.length) (r : Av) {H : Hp} {n o k cap : Nat} (hcap : l.length ≤ cap) (hH : H o = some (.cells (Br l))) (hk : H k = some (.cells [AA r.id, .str r.author, AA r.time])) (hok : k ≠ o) :
 BN Tryz.prog 117 [.slc o 0 3 l.length cap, AA i, .sl k 0 3 1 true] H n (fun v h' n' => v = Aj (Fh l i r) ∧ h' = hset H o none ∧ n' = n) := by
 refine Da Tryz.func117 rfl fun ho => ?_
 have hHb := ho.lt
 have ht : BC Tryz.prog 30 = some 42 := by simp [go_sem]
 have hz : Bk Tryz.prog 42 = 3 := by simp [go_sem]
 have hst : (BP Tryz.prog 42).storable = true := by simp [go_sem]
 have hzl : (BP Tryz.prog 42).cells.length = 3 := by simp [go_sem]
 have hb : Bj Tryz.prog 42 ≤ 65536 := by simp [go_sem]
 have hti : L8 Tryz.prog 3 = some .i64 := by simp [go_sem]
 have ht2 : (BC Tryz.prog 30).isSome = true := by rw [ht]; rfl
 have hC := GH l
 have hon := hHb o _ hH
 have hkn := hHb k _ hk
 have w1 := wS i (by omega)
 have w2 : IntKind.i64.wrap ((l.length : Int) + 1) = ((l.length + 1 : Nat) : Int) := by rw [DJ] <;> omega
 refine F6 0 [(0, .slc o 0 3 l.length cap), (1, AA i), (2, .sl k 0 3 1 true)] H n (AK ?_) (fun m hm => ?_)
 · simp [go_sem, Jo]
 subst hm
 refine F6 0 [(0, .slc o 0 3 l.length cap), (1, AA i), (2, .sl k 0 3 1 true)] H n (AK ?_) (fun m hm => ?_)
 · simp [go_sem]
   refine Dm (j := o) (off := 0) (z := 3) (len := l.length) (cap := cap) (l := i) (m := l.length) rfl ht hz (by omega) (by simp [go_sem]) (.inr ⟨_, rfl, by simp [go_sem]⟩) (.inl ⟨rfl, rfl⟩) (by omega) hcap (by omega) ?_
   simp [go_sem, Jo]
 subst hm
 refine F6 0 [(0, .slc o 0 3 l.length cap), (1, AA i), (2, .sl k 0 3 1 true), (7, AA 1)] H n (AK ?_) (fun m hm => ?_)
 · simp [go_sem, Jo]
 subst hm
 refine F6 0 [(0, .slc o 0 3 l.length cap), (1, AA i), (2, .sl k 0 3 1 true), (7, AA 1)] H n (AK ?_) (fun m hm => ?_)
 · simp [go_sem, Jo]
 subst hm
 refine F6 0 [(0, .slc o 0 3 l.length cap), (1, AA i), (2, .sl k 0 3 1 true), (7, AA 1), (8, AA l.length)] H n (AK ?_) (fun m hm => ?_)
 · simp [go_sem]
   refine SY (j := o) (off := 0) (z := 3) (len := l.length) (cap := cap) rfl ht2 (by simp [go_sem]) ?_
   simp [go_sem, Jo]
 subst hm
 refine F6 0 [(0, .slc o 0 3 l.length cap), (1, AA i), (2, .sl k 0 3 1 true), (7, AA 1), (8, AA l.length)] H n (AK ?_) (fun m hm => ?_)
 · have : ((i : Int) == l.length) = false := by simp; omega
   simp [go_sem, Jo, this]
 subst hm
 have fin : ∀ (q : Nat) (full : Bool) (h' : Hp) (n' : Nat), n ≤ q ∨ q = o → h' q = some (.cells (Br (Fh l i r))) → (∀ j, j < n → j ≠ o → h' j = H j) → CE n h' n' (.sl q 0 3 (l.length + 1) full) (fun v h' n' => v = Aj (Fh l i r) ∧ h' = hset H o none ∧ n' = n) := fun q full h' n' hq hc hh => by
  have hcs := GH (Fh l i r)
  have hon : hset H o none q = none := by
   rcases hq with hq | rfl
   · rw [AD _ _ (by omega)]; exact ho.none hq
   · exact AC _ _ _
  refine .inr ⟨1, Aj (Fh l i r), hset H o none, ?_, Av.E.imm _ _ _ _, fun j y e2 => ?_, rfl, rfl, rfl⟩
  · have := DN (h' := h') (h := hset H o none) (k := 0) (z := 3) (es := (Fh l i r).map Av.enc) (full := full) (full' := false) (o := q) hon (by simp) hc (Av.E.size _)
    rw [Kj, OG _ _ _ (by omega)] at this; exact this
  · by_cases e1 : j = o
    · subst e1; rw [AC] at e2; cases e2
    · rw [AD _ _ e1] at e2
      have := hHb j y e2
      exact ⟨by rw [hh j this e1]; exact e2, ho j y e2⟩
 have hrc : Br [r] = [AA r.id, .str r.author, AA r.time] := by simp [Br, Av.enc, SV.cells]
 have hins : Br (Fh l i r) = Br (l.take i) ++ (Br [r] ++ Br (l.drop i)) := by
  rw [← OX, ← OX]; rfl
 have hlt : (Br (l.take i)).length = i * 3 := by rw [GH]; simp; omega
 have hld : (Br (l.drop i)).length = (l.length - i) * 3 := by rw [GH]; simp
 have hrl : (Br [r]).length = 3 := by rw [hrc]; rfl
 by_cases hc : cap < l.length + 1
 · refine FW ?_
   refine F6 0 [(0, .slc o 0 3 l.length cap), (1, AA i), (2, .sl k 0 3 1 true), (7, AA 1), (8, AA l.length), (31, .bool true)] H n (AK ?_) (fun m hm => ?_)
   · simp [go_sem, w2]
     refine Of (j := o) (off := 0) (z := 3) (len := l.length) (cap := cap) rfl ht2 (by simp [go_sem]) ?_
     have : (cap : Int) < (l.length : Int) + 1 := by omega
     simp [go_sem, Jo, this]
   subst hm
   refine Ap (b := true) (by simp [go_sem]) ?_
   simp only [if_true]
   obtain ⟨Z, hZ⟩ : ∃ Z, Z = (List.replicate (l.length + 1 - i) (BP Tryz.prog 42).cells).flatten := ⟨_, rfl⟩
   have hZl : Z.length = (l.length + 1 - i) * 3 := by rw [hZ, List.length_flatten]; simp [hzl]
   refine CD 1 [(0, .sl o 0 3 l.length false), (1, AA i), (2, .sl k 0 3 1 true), (7, AA 1), (9, .sl n 0 3 (l.length + 1) false)] (hset H n (some (.cells (Br (l.take i) ++ Z)))) (fun m => n + 1 = m) (AK ?_) (fun m hm => ?_)
   · simp [go_sem]
     refine Dm (j := o) (off := 0) (z := 3) (len := l.length) (cap := cap) (l := 0) (m := i) rfl ht hz (by omega) (by simp [go_sem]) (.inl ⟨rfl, rfl⟩) (.inr ⟨_, rfl, by simp [go_sem]⟩) (by omega) (by omega) (by omega) ?_
     have w3 : IntKind.i64.wrap (((l.length + 1 : Nat) : Int) - i) = ((l.length + 1 - i : Nat) : Int) := by rw [DJ] <;> omega
     simp [go_sem, w2, w3, -Int.natCast_add]
     refine Oe (j := o) (off := 0) (z := 3) (len := i) (cap := cap) (k := l.length + 1 - i) (e := 42) rfl ht hti hz (by omega) hst hzl hb (by simp [go_sem]) (by simp [go_sem]) (by omega) (by omega) (by omega) hH (by omega) ?_
     rw [← hZ]
     have e1 : ((Br l).drop 0).take (i * 3) = Br (l.take i) := by rw [Zs]; exact Jy l i (by omega)
     have e2 : i + (l.length + 1 - i) = l.length + 1 := by omega
     rw [e1, e2]
     simp [go_sem, Fz]
   subst hm
   have hio : ¬ ((i : Int) = l.length + 1) := by omega
   have hile : (i : Int) ≤ l.length + 1 := by omega
   have hGk : ∀ (y : Option BY), hset H n y k = some (.cells [AA r.id, .str r.author, AA r.time]) := fun y => by rw [AD _ _ (by omega)]; exact hk
   have hGo : ∀ (y : Option BY), hset H n y o = some (.cells (Br l)) := fun y => by rw [AD _ _ (by omega)]; exact hH
   refine CD 0 [(0, .sl o 0 3 l.length false), (1, AA i), (7, AA 1), (9, .sl n 0 3 (l.length + 1) false)] (hset H n (some (.cells (Br (l.take i) ++ (Br [r] ++ Z.drop 3))))) (fun m => n + 1 = m) (AK ?_) (fun m hm => ?_)
   · have hmin : Nat.min 1 (l.length + 1 - i) = 1 := Ze (by omega)
     have h0 : ¬ (l.length + 1 - i = 0) := by omega
     have h5 : i * 3 + 3 ≤ i * 3 + Z.length := by omega
     have hdd : (Br (l.take i)).drop (i * 3 + 3) = [] := Zg (by omega)
     simp [go_sem, hio, hile, hGk, AC, hmin, hlt, h5, Jo, Ai, List.drop_append, hrc, hdd]
   subst hm
   refine AV 0 (α := Unit) (fun _ => [(9, .sl n 0 3 (l.length + 1) false)]) (fun _ => hset H n (some (.cells (Br (Fh l i r))))) (fun _ m => n + 1 = m) (Bt Tf rfl (by kernel_rfl) (by kernel_rfl) ?_) (fun _ m hm => ?_)
   · have hin : ¬ ((i : Int) = l.length) := by omega
     have hil : (i : Int) ≤ l.length := by omega
     have h6 : (i : Int) + 1 ≤ l.length + 1 := by omega
     have hmin : Nat.min (l.length - i) (l.length - i) = l.length - i := Nat.min_self _
     have h0 : ¬ (l.length - i = 0) := by omega
     have h1 : ((i : Int) + 1).toNat = i + 1 := by omega
     have h2 : (0 : Int) ≤ (i : Int) + 1 := by omega
     have h3 : ((l.length : Int) + 1 - ((i : Int) + 1)).toNat = l.length - i := by omega
     have h4 : i * 3 + (l.length - i) * 3 ≤ (Br l).length := by omega
     have h5 : ((Br l).drop (i * 3)).take ((l.length - i) * 3) = Br (l.drop i) := by rw [Mf l i (by omega)]; exact Y8 (by omega)
     have h6' : (Br (l.take i) ++ (Br [r] ++ Z.drop 3)).take ((i + 1) * 3) = Br (l.take i) ++ Br [r] := by
      rw [← KF]; exact List.take_left' (by rw [Ye]; omega)
     have h7 : (Br (l.take i) ++ (Br [r] ++ Z.drop 3)).drop ((i + 1) * 3 + (l.length - i) * 3) = [] := Zg (by simp only [Ye, Uh]; omega)
     have h8 : (i + 1) * 3 + (l.length - i) * 3 ≤ (Br (l.take i) ++ (Br [r] ++ Z.drop 3)).length := by simp only [Ye, Uh]; omega
     have h9 : (Br (l.drop i)).take ((l.length - i) * 3) = Br (l.drop i) := Y8 (by omega)
     rw [hins, ← KF]
     generalize (Br (l.take i) ++ (Br [r] ++ Z.drop 3)) = A at *
     simp [go_sem, Tf, w1, hin, hil, h6, h1, h2, h3, h4, h5, h6', h7, h8, h9, hGo, AC, hmin, h0, hld, Jo, Ai]
   subst hm
   refine AK ?_
   simp [go_sem]
   exact fin n false _ _ (.inl (JO n)) (AC _ _ _) fun j hj _ => AD _ _ (by omega)
 · refine F6 0 [(0, .slc o 0 3 l.length cap), (1, AA i), (2, .sl k 0 3 1 true), (7, AA 1), (8, AA l.length)] H n ?_ (fun m hm => ?_)
   · refine F6 0 [(0, .slc o 0 3 l.length cap), (1, AA i), (2, .sl k 0 3 1 true), (7, AA 1), (8, AA l.length), (31, .bool false)] H n (AK ?_) (fun m hm => ?_)
     · simp [go_sem, w2]
       refine Of (j := o) (off := 0) (z := 3) (len := l.length) (cap := cap) rfl ht2 (by simp [go_sem]) ?_
       have : ¬ ((cap : Int) < (l.length : Int) + 1) := by omega
       simp [go_sem, Jo, this]
     subst hm
     refine AK ?_
     simp [go_sem, Jo]
   subst hm
   refine F6 0 [(0, .slc o 0 3 (l.length + 1) cap), (1, AA i), (2, .sl k 0 3 1 true), (7, AA 1), (8, AA l.length)] H n (AK ?_) (fun m hm => ?_)
   · simp [go_sem, w2, -Int.natCast_add]
     refine Dm (j := o) (off := 0) (z := 3) (len := l.length) (cap := cap) (l := 0) (m := l.length + 1) rfl ht hz (by omega) (by simp [go_sem]) (.inl ⟨rfl, rfl⟩) (.inr ⟨_, rfl, by simp [go_sem]⟩) (by omega) (by omega) (by omega) ?_
     simp [go_sem, Jo]
   subst hm
   refine FW ?_
   refine AV 0 (α := Unit) (fun _ => [(0, .slc o 0 3 (l.length + 1) cap), (1, AA i), (2, .sl k 0 3 1 true), (7, AA 1), (68, .bool true)]) (fun _ => H) (fun _ m => n = m) (Nk ?_) (fun _ m hm => ?_)
   · simp [go_sem, JS, isX, w1, -Int.natCast_add]
     refine Dm (j := o) (off := 0) (z := 3) (len := l.length + 1) (cap := cap) (l := i + 1) (m := l.length + 1) rfl ht hz (by omega) (by simp [go_sem]) (.inr ⟨_, rfl, by simp [go_sem]⟩) (.inl ⟨rfl, rfl⟩) (by omega) (by omega) (by omega) ?_
     simp [go_sem]
     refine NM (k := k) (j := o) (off := (i + 1) * 3) (len := l.length - i) (cap := cap - (i + 1)) (full := true) rfl (by simp [go_sem]) (by simp [go_sem]) (by simp [go_sem]) hok hk hH (fun e => by rw [e] at hC; simp at hC; omega) ?_
     simp [go_sem, Jo]
   subst hm
   refine Ap (b := true) (by simp [go_sem]) ?_
   simp only [if_true]
   have g1 : (Br l).take ((i + 1) * 3) = Br (l.take (i + 1)) := Jy l (i + 1) (by omega)
   have g2 : ((Br l).drop (i * 3)).take ((l.length - i) * 3) = Br (l.drop i) := by rw [Mf l i (by omega)]; exact Y8 (by omega)
   have A1 : ∀ {evs : Operand → SV} {x y : Operand} {o' : Oper} {Q : SV → Hp → Nat → Prop}, o'.op = .call { callee := .builtin .copy, args := #[x, y], argTypes := #[30, 30] } → evs x = .slc o ((i + 1) * 3) 3 (l.length - i) (cap - (i + 1)) → evs y = .slc o (i * 3) 3 (l.length + 1 - i) (cap - i) → Q (.int .i64 ↑(l.length - i)) (hset H o (some (.cells (Br (l.take (i + 1)) ++ Br (l.drop i))))) n → EQ (By.plain.call false 0) Tryz.prog evs o' H n Q := fun ho hx hy hq =>
    Qo (k := l.length - i) ho ht hz (by omega) hx hy hH (Nat.min_eq_right (by omega)) (by omega) (by omega) (by omega) (by rw [g1, g2]; exact hq)
   refine AV 1 (α := Unit) (fun _ => [(0, .sl o 0 3 (l.length + 1) false), (1, AA i), (2, .sl k 0 3 1 true)]) (fun _ => hset H o (some (.cells (Br (l.take (i + 1)) ++ Br (l.drop i))))) (fun _ m => n = m) (Bt Tf rfl (by kernel_rfl) (by kernel_rfl) ?_) (fun _ m hm => ?_)
   · simp [go_sem, Tf, w1, -Int.natCast_add]
     have e1 : l.length + 1 - (i + 1) = l.length - i := by omega
     refine ⟨?_, ?_⟩
     · refine Dm (j := o) (off := 0) (z := 3) (len := l.length + 1) (cap := cap) (l := i + 1) (m := l.length + 1) rfl ht hz (by omega) (by simp [go_sem]) (.inr ⟨_, rfl, by simp [go_sem]⟩) (.inl ⟨rfl, rfl⟩) (by omega) (by omega) (by omega) ?_
       simp [go_sem]
       refine Dm (j := o) (off := 0) (z := 3) (len := l.length + 1) (cap := cap) (l := i) (m := l.length + 1) rfl ht hz (by omega) (by simp [go_sem]) (.inr ⟨_, rfl, by simp [go_sem]⟩) (.inl ⟨rfl, rfl⟩) (by omega) (by omega) (by omega) ?_
       simp [go_sem]
       refine A1 rfl (by simp [go_sem]) (by simp [go_sem]) ?_
       simp [go_sem, Fz]
     · refine Dm (j := o) (off := 0) (z := 3) (len := l.length + 1) (cap := cap) (l := i) (m := l.length + 1) rfl ht hz (by omega) (by simp [go_sem]) (.inr ⟨_, rfl, by simp [go_sem]⟩) (.inl ⟨rfl, rfl⟩) (by omega) (by omega) (by omega) ?_
       simp [go_sem, -Int.natCast_add]
       refine Dm (j := o) (off := 0) (z := 3) (len := l.length + 1) (cap := cap) (l := i + 1) (m := l.length + 1) rfl ht hz (by omega) (by simp [go_sem]) (.inr ⟨_, rfl, by simp [go_sem]⟩) (.inl ⟨rfl, rfl⟩) (by omega) (by omega) (by omega) ?_
       simp [go_sem]
       refine A1 rfl (by simp [go_sem]) (by simp [go_sem]) ?_
       simp [go_sem, Fz]
   subst hm
   have g3 : (Br (l.take (i + 1))).length = (i + 1) * 3 := by rw [GH]; simp; omega
   refine F6 0 [(0, .sl o 0 3 (l.length + 1) false)] (hset H o (some (.cells (Br (Fh l i r))))) n (AK ?_) (fun m hm => ?_)
   · have hio : ¬ ((i : Int) = l.length + 1) := by omega
     have hile : (i : Int) ≤ l.length + 1 := by omega
     have hGk : ∀ (y : Option BY), hset H o y k = some (.cells [AA r.id, .str r.author, AA r.time]) := fun y => by rw [AD _ _ hok]; exact hk
     have hmin : Nat.min 1 (l.length + 1 - i) = 1 := Ze (by omega)
     have h0 : ¬ (l.length + 1 - i = 0) := by omega
     have h5 : i * 3 + 3 ≤ (Br (l.take (i + 1)) ++ Br (l.drop i)).length := by rw [Ye]; omega
     have h6 : (Br (l.take (i + 1)) ++ Br (l.drop i)).take (i * 3) = Br (l.take i) := by
      rw [X7 (by omega), Jy _ _ (by simp; omega), List.take_take, Ze (by omega)]
     have h7 : (Br (l.take (i + 1)) ++ Br (l.drop i)).drop (i * 3 + 3) = Br (l.drop i) := Xz (by omega)
     rw [hins, hrc]
     generalize Br (l.take (i + 1)) ++ Br (l.drop i) = A at *
     simp [go_sem, hio, hile, hGk, AC, hmin, h5, h6, h7, Jo, Ai]
   subst hm
   refine AK ?_
   simp [go_sem]
   exact fin o false _ _ (.inr rfl) (AC _ _ _) fun j hj e => AD _ _ e
theorem Rt (l : List Av) (r : Av) : Fh l l.length r = l ++ [r] := by unfold Fh; simp
theorem RY (l : List Av) (hl0 : l ≠ []) (hl : l.length ≤ 1048576) (i : Nat) (hi : i ≤ l.length) (r : Av) {H : Hp} {n o k : Nat} {full : Bool} (hH : H o = some (.cells ((l.map Av.enc).flatMap SV.cells))) (hk : H k = some (.cells [AA r.id, .str r.author, AA r.time])) (hok : o ≠ k) :
 BN Tryz.prog 117 [.sl o 0 3 l.length full, AA i, .sl k 0 3 1 true] H n (fun v h' n' => v = Aj (Fh l i r) ∧ h' = hset H o none ∧ n' = n) := by
 rcases Yr i l.length with h | h
 · exact Ak.cap fun cap hc => d117c l hl i h r hc hH hk hok.symm
 · have : i = l.length := by omega
   subst this
   have := S8 l hl0 hl r (full := full) (n := n) hH hk hok
   rw [Rt]; exact this
set_option maxHeartbeats 2000000 in
theorem c45g (l : List Av) (hl0 : l ≠ []) (hl : l.length < 256) (r : Av) (h0 : CU l = 0) (h1 : CN r = 0) (i : Nat) (hi : i ≤ l.length) (hb : A8 (Fb l r.id) l.length = (i, false)) : PC 45 [Aj l, r.enc] (.tup [Aj (Fh l i r), AA 0]) := by
 intro h n
 refine Da Tryz.func45 rfl fun ho => ?_
 have hHb := ho.lt
 refine AZ 1 [(0, Aj l), (3, .iptr [AA r.id, .str r.author, AA r.time])] h n ?_ (fun m hm => ?_)
 · simp [go_sem, Av.enc, Jo]
   exact ⟨AW (Ad hHb (JO _)) (AC _ _ _), AJ hHb AB⟩
 refine Bf 0 [(0, Aj l), (3, .iptr [AA r.id, .str r.author, AA r.time])] h n (AK ?_) (fun m hm => ?_)
 · simp [go_sem]
   refine Y4 (c71 l (by omega)) ?_
   rw [h0]
   simp [go_sem, Jo, hm]
 refine Bf 0 [(0, Aj l), (3, .iptr [AA r.id, .str r.author, AA r.time])] h n (AK ?_) (fun m hm => ?_)
 · simp [go_sem]
   refine Y4 (by simpa [Av.enc] using UM r) ?_
   rw [h1]
   simp [go_sem, Jo, hm]
 refine AZ 0 [(0, Aj l), (3, .iptr [AA r.id, .str r.author, AA r.time]), (8, AA i), (9, .bool false)] h n ?_ (fun m hm => ?_)
 · simp [go_sem]
   refine Y4 (c72 l (by omega) r.id) ?_
   rw [hb]
   simp [go_sem, Jo, hm]
 refine Bf 0 [(0, Aj l), (3, .iptr [AA r.id, .str r.author, AA r.time]), (8, AA i)] h n (AK ?_) (fun m hm => ?_)
 · have : ¬ (256 : Int) ≤ l.length := by omega
   simp [go_sem, Jo, hm, this]
 refine AV 0 (α := Unit) (fun _ => [(4, Aj (Fh l i r)), (5, AA 0)]) (fun _ => h) (fun _ m => n ≤ m) (Bt Q7 rfl (by kernel_rfl) (by kernel_rfl) ?_) (fun _ m hm => ?_)
 · have hHm : ∀ j y, h j = some y → j < m := fun j y e => by have := hHb j y e; omega
   simp [go_sem, Q7]
   refine ⟨?_, ?_, ?_⟩
   · refine LC.use (T2 l (by omega)) ?_
     rintro v h' n' ⟨g1, g2, ⟨g3, _⟩ | ⟨o, full, g3, g4, rfl, g5⟩⟩
     · exact absurd (by simpa using g3) hl0
     simp [go_sem]
     have e1 : o ≠ n' := by omega
     refine Y9 (RY l hl0 (by omega) i hi r (by rw [AD _ _ e1]; exact g5) (AC _ _ _) e1) ?_
     rintro v H2 n2 ⟨rfl, rfl, rfl⟩
     simp [go_sem, Jo]
     exact ⟨by omega, AJ (fun j z e => by have := hHm j z e; omega) (AJ (fun j z e => by have := hHm j z e; omega) g2)⟩
   · refine LC.use (T2 l (by omega)) ?_
     rintro v h' n' ⟨g1, g2, ⟨g3, _⟩ | ⟨o, full, g3, g4, rfl, g5⟩⟩
     · exact absurd (by simpa using g3) hl0
     simp [go_sem]
     have e1 : o ≠ n' := by omega
     refine Y9 (RY l hl0 (by omega) i hi r (by rw [AD _ _ e1]; exact g5) (AC _ _ _) e1) ?_
     rintro v H2 n2 ⟨rfl, rfl, rfl⟩
     simp [go_sem, Jo]
     exact ⟨by omega, AJ (fun j z e => by have := hHm j z e; omega) (AJ (fun j z e => by have := hHm j z e; omega) g2)⟩
   · refine LC.use (T2 l (by omega)) ?_
     rintro v h' n' ⟨g1, g2, ⟨g3, _⟩ | ⟨o, full, g3, g4, rfl, g5⟩⟩
     · exact absurd (by simpa using g3) hl0
     simp [go_sem]
     refine Y9 (RY l hl0 (by omega) i hi r g5 (g2 _ _ (AC _ _ _)) (by omega)) ?_
     rintro v H2 n2 ⟨rfl, rfl, rfl⟩
     simp [go_sem, Jo]
     exact ⟨by omega, AJ (fun j z e => by have := hHm j z e; omega) fun j z e => g2 _ _ (AJ hHm AB j z e)⟩
 refine AK ?_
 simp [go_sem]
 exact Ax ho AB rfl (by rw [closed, closedL, closedL, Av.E.imm]; rfl)
def CT (l : List BS) : List SV := (l.map BS.enc).flatMap SV.cells
theorem EU (d : BS) (l : List BS) : CT (d :: l) = AA d.rev :: AA d.move :: CT l := by simp [CT, BS.enc, SV.cells]
theorem Ny (l : List BS) : (CT l).length = l.length * 2 := by
 have := BK (z := 2) (BS.E.size l)
 rw [Kj] at this; exact this
theorem MF (l : List BS) : ∀ i, (CT l).drop (i * 2) = CT (l.drop i) := by
 induction l with
 | nil => intro i; simp [CT]
 | cons d l ih =>
  intro i
  cases i with
  | zero => simp
  | succ i => rw [EU, show (i + 1) * 2 = i * 2 + 2 by omega, ZK, ZK, ih i, ZK]
theorem QR (l : List BS) : ∀ i, (CT l).take (i * 2) = CT (l.take i) := by
 induction l with
 | nil => intro i; simp [CT]
 | cons d l ih =>
  intro i
  cases i with
  | zero => simp [CT]
  | succ i => rw [EU, show (i + 1) * 2 = i * 2 + 2 by omega, Yu, Yu, ih i, Yu, EU]
theorem RZ (a b : List BS) : CT (a ++ b) = CT a ++ CT b := by unfold CT; rw [K1, YM]
def U7 : BS := ⟨0, 0⟩
def Gr (l : List BS) (i : Nat) : BS := l.getD i U7
theorem P1 (l : List BS) (i : Nat) (hi : i < l.length) : (CT l).drop (i * 2) = AA (Gr l i).rev :: AA (Gr l i).move :: CT (l.drop (i + 1)) := by
 have e : Gr l i = l[i] := by simp [Gr, List.getD, hi]
 rw [MF, Yi hi, EU, e]
theorem Nz (l : List BS) (i : Nat) (hi : i < l.length) (d : BS) : (CT l).take (i * 2) ++ (AA d.rev :: AA d.move :: (CT l).drop (i * 2 + 2)) = CT (l.set i d) := by
 rw [show i * 2 + 2 = (i + 1) * 2 by omega, MF, QR, ZP, if_pos hi, RZ, EU]
def Hu (l : List BS) (j : Nat) : List BS := (l.set (j + 1) (Gr l j)).set j (Gr l (j + 1))
def Em (l : List BS) : Nat → List BS
 | 0 => l
 | j + 1 => if (Gr l (j + 1)).rev < (Gr l j).rev then Em (Hu l j) j else l
def CS (l : List BS) : Nat → List BS
 | 0 => l
 | i + 1 => Em (CS l i) i
theorem J5 (l : List BS) (j : Nat) : (Hu l j).length = l.length := by simp [Hu]
theorem Mi : ∀ (j : Nat) (l : List BS), (Em l j).length = l.length
 | 0, l => rfl
 | j + 1, l => by rw [Em]; split; rw [Mi j, J5]; rfl
theorem Fx (l : List BS) : ∀ i, (CS l i).length = l.length
 | 0 => rfl
 | i + 1 => by rw [CS, Mi, Fx l i]
theorem c120 (a b : BS) : PC 120 [a.enc, b.enc] (AA (GD a.rev b.rev)) := by
 intro h n
 refine gq Tryz.func120 rfl fun ho => ?_
 have hh : ∀ y z, ∀ o x, h o = some x → hset (hset h n y) (n + 1) z o = some x := fun y z => AN ho (by omega) (AN ho (JO _) AB)
 have q : n ≠ n + 1 := by omega
 simp [go_sem, BS.enc, AC, AD]
 refine (Sx a.rev b.rev).use ?_
 simp [go_sem]
 exact Ax ho (hh _ _) rfl rfl
set_option maxHeartbeats 4000000 in
theorem d254 (l : List BS) (hl0 : 1 ≤ l.length) (hl : l.length ≤ 1048576) {H : Hp} {n o : Nat} {full : Bool} (hH : H o = some (.cells (CT l))) :
 BN Tryz.prog 254 [.sl o 0 2 l.length full, AA 0, AA l.length, .fn (.func 120) [] []] H n (fun v h' n' => v = .tup [] ∧ h' = hset H o (some (.cells (CT (CS l l.length)))) ∧ n' = n) := by
 refine Da Tryz.func254 rfl fun ho => ?_
 have hHb := ho.lt
 have hon := hHb o _ hH
 have hcl : ∀ L : List BS, closedL n (CT L) = true := fun L => by
  induction L with
  | nil => rfl
  | cons d L ih => rw [EU]; simp [closedL, closed, ih]
 obtain ⟨G, hG⟩ : ∃ G : List BS → Hp, ∀ L, G L = hset H o (some (.cells (CT L))) := ⟨_, fun _ => rfl⟩
 have hGo : ∀ L, G L o = some (.cells (CT L)) := fun L => by rw [hG, AC]
 have hGs : ∀ L L', hset (G L) o (some (.cells (CT L'))) = G L' := fun L L' => by rw [hG, hG, Ai]
 have hOld : ∀ L, FM (G L) n := fun L j y e => by
  rw [hG] at e; simp only [hset] at e
  split at e
  · subst_vars; cases e; exact ⟨hon, hcl L⟩
  · exact ho j y e
 have hGH : G l = H := by rw [hG]; funext j; simp only [hset]; split; subst_vars; exact hH.symm; rfl
 refine AZ 0 [(0, .sl o 0 2 l.length full), (1, AA 0), (2, AA l.length), (3, .fn (.func 120) [] []), (8, AA 1)] (G l) n ?_ (fun m hm => ?_)
 · rw [hGH]; simp [go_sem, Jo, show IntKind.i64.wrap 1 = 1 from by decide]
 refine AX (BX 0 (α := Nat) (fun i => [(0, .sl o 0 2 l.length full), (1, AA 0), (2, AA l.length), (3, .fn (.func 120) [] []), (8, AA i)]) (fun i => G (CS l i)) (fun i m => 1 ≤ i ∧ i ≤ l.length ∧ n ≤ m) (fun i => l.length - i) 1 ⟨by omega, by omega, hm⟩ ?_ AB ?_)
 · simp [Am, Jo]
 rintro i m ⟨hi1, hi2, hm⟩
 have hlen := Fx l i
 by_cases hlt : i < l.length
 · have w1 := wS i (by omega)
   have hnx : CS l (i + 1) = Em (CS l i) i := rfl
   generalize CS l i = S at hlen hnx
   refine Bf 0 [(0, .sl o 0 2 l.length full), (1, AA 0), (2, AA l.length), (3, .fn (.func 120) [] []), (8, AA i)] (G S) n (AK ?_) (fun m2 hm2 => ?_)
   · simp [go_sem, Jo, hlt, hm]
   refine AV 0 (α := Unit) (fun _ => [(0, .sl o 0 2 l.length full), (1, AA 0), (2, AA l.length), (3, .fn (.func 120) [] []), (8, AA i)]) (fun _ => G (Em S i)) (fun _ m2 => n ≤ m2) (AX ?_) (fun _ m2 hm2 => ?_)
   · refine AZ 0 [(0, .sl o 0 2 l.length full), (1, AA 0), (2, AA l.length), (3, .fn (.func 120) [] []), (8, AA i), (9, AA i)] (G S) n ?_ (fun m2 hm2 => ?_)
     · simp [go_sem, Jo, hm2]
     refine AX (BX 0 (α := Nat × List BS) (fun q => [(0, .sl o 0 2 l.length full), (1, AA 0), (2, AA l.length), (3, .fn (.func 120) [] []), (8, AA i), (9, AA q.1)]) (fun q => G q.2) (fun q m => q.1 ≤ i ∧ q.2.length = l.length ∧ Em q.2 q.1 = Em S i ∧ n ≤ m) (fun q => q.1) (i, S) ⟨by omega, hlen, rfl, hm2⟩ ?_ AB ?_)
     · simp [Am, Jo]
     rintro ⟨j, L⟩ m3 ⟨hj, hL, hs, hm3⟩
     dsimp only at hj hL hs ⊢
     refine FW ?_
     cases j with
     | zero =>
      rw [Em] at hs
      refine Bf 0 [(0, .sl o 0 2 l.length full), (1, AA 0), (2, AA l.length), (3, .fn (.func 120) [] []), (8, AA i), (34, .bool false)] (G L) n (AK ?_) (fun m2 hm2 => ?_)
      · simp [go_sem]
        repeat first | refine nq ?_ | refine sq ?_ | refine aq ?_
        simp [go_sem, hm3]
      refine Ap (b := false) (by simp [go_sem]) (AK ?_)
      simp [go_sem, Jo]
      rw [← hs]
      exact ⟨hm2, AB⟩
     | succ j =>
      have w2 : IntKind.i64.wrap (((j + 1 : Nat) : Int) - 1) = (j : Int) := by rw [DJ] <;> omega
      have w3 : IntKind.i64.wrap (j : Int) = j := by rw [DJ] <;> omega
      have e1 := P1 L (j + 1) (by omega)
      have e2 := P1 L j (by omega)
      have hLl := Ny L
      refine Bf 0 [(0, .sl o 0 2 l.length full), (1, AA 0), (2, AA l.length), (3, .fn (.func 120) [] []), (8, AA i), (9, AA (j + 1 : Nat)), (34, .bool (decide ((Gr L (j + 1)).rev < (Gr L j).rev)))] (G L) n (AK ?_) (fun m2 hm2 => ?_)
      · have f1 : (j : Int) + 1 < l.length := by omega
        have f2 : (j : Int) < l.length := by omega
        have f3 : (0 : Int) ≤ (j : Int) + 1 := by omega
        have f4 : (0 : Int) < (j : Int) + 1 := by omega
        have f5 : ((j : Int) + 1).toNat = j + 1 := by omega
        have t1 : ((CT L).drop ((j + 1) * 2)).take 2 = [AA (Gr L (j + 1)).rev, AA (Gr L (j + 1)).move] := by rw [e1]; rfl
        have t2 : ((CT L).drop (j * 2)).take 2 = [AA (Gr L j).rev, AA (Gr L j).move] := by rw [e2]; rfl
        have l1 : (j + 1) * 2 + 2 ≤ (CT L).length := by omega
        have l2 : j * 2 + 2 ≤ (CT L).length := by omega
        simp [go_sem, w3, hGo, f1, f2, f3, f4, f5, t1, t2, l1, l2]
        repeat first | refine nq ?_ | refine sq ?_ | refine aq ?_
        refine YL _ _ _ _ _ _ (by simpa [BS.enc] using c120 (Gr L (j + 1)) (Gr L j)) ?_
        simp [go_sem]
        repeat first | refine nq ?_ | refine sq ?_ | refine aq ?_
        have hc : ∀ a b : Int, decide (GD a b < 0) = decide (a < b) := fun a b => by
         unfold GD
         by_cases h1 : a < b
         · simp [h1]
         · by_cases h2 : b < a <;> simp [h1, h2]
        rw [hc]
        exact Jo
      by_cases hc : (Gr L (j + 1)).rev < (Gr L j).rev
      · refine Ap (b := true) (by simp [go_sem, hc]) ?_
        rw [if_pos rfl]
        refine F8 ?_
        rw [Dv]
        have hs' : Em (Hu L j) j = Em S i := by rw [Em, if_pos hc] at hs; exact hs
        refine AV 0 (α := Unit) (fun _ => [(0, .sl o 0 2 l.length full), (1, AA 0), (2, AA l.length), (3, .fn (.func 120) [] []), (8, AA i), (9, AA (j + 1 : Nat))]) (fun _ => G (Hu L j)) (fun _ m2 => n ≤ m2) (AX (AK ?_)) (fun _ m4 hm4 => ?_)
        · have f1 : (j : Int) + 1 < l.length := by omega
          have f2 : (j : Int) < l.length := by omega
          have f3 : (0 : Int) ≤ (j : Int) + 1 := by omega
          have f5 : ((j : Int) + 1).toNat = j + 1 := by omega
          have t1 : ((CT L).drop ((j + 1) * 2)).take 2 = [AA (Gr L (j + 1)).rev, AA (Gr L (j + 1)).move] := by rw [e1]; rfl
          have t2 : ((CT L).drop (j * 2)).take 2 = [AA (Gr L j).rev, AA (Gr L j).move] := by rw [e2]; rfl
          have l1 : (j + 1) * 2 + 2 ≤ (CT L).length := by omega
          have l2 : j * 2 + 2 ≤ (CT L).length := by omega
          have s1 := Nz L (j + 1) (by omega) (Gr L j)
          have s2 := Nz (L.set (j + 1) (Gr L j)) j (by rw [List.length_set]; omega) (Gr L (j + 1))
          have l3 : j * 2 + 2 ≤ (CT (L.set (j + 1) (Gr L j))).length := by rw [Ny, List.length_set]; omega
          have hsw : (L.set (j + 1) (Gr L j)).set j (Gr L (j + 1)) = Hu L j := rfl
          rw [hsw] at s2
          generalize L.set (j + 1) (Gr L j) = L2 at *
          simp [go_sem, w3, hGo, f1, f2, f3, f5, t1, t2, l1, l2, s1, s2, l3, hGs]
          repeat first | refine nq ?_ | refine sq ?_ | refine aq ?_
          exact hm2
        · refine AK ?_
          simp [go_sem, w2, Jo, -Int.natCast_add]
          exact ⟨j, by omega, Hu L j, ⟨by omega, by rw [J5, hL], hs', hm4⟩, Jo, AB⟩
      · refine Ap (b := false) (by simp [go_sem, hc]) (AK ?_)
        have hs' : L = Em S i := by rw [Em, if_neg hc] at hs; exact hs
        simp [go_sem, Jo]
        rw [← hs']
        exact ⟨hm2, AB⟩
   · refine AK ?_
     simp [go_sem, w1, Jo, -Int.natCast_add]
     exact ⟨i + 1, by omega, ⟨by omega, by omega⟩, Jo, by rw [hnx]; exact AB⟩
 · have : i = l.length := by omega
   subst this
   refine AK ?_
   simp [go_sem]
   have := CY (hOld (CS l l.length)) (n' := m) (v := .tup []) (by simp [closed, closedL]) AB
   rw [hG] at this ⊢
   exact this
theorem d188 (l : List BS) (hl0 : 1 ≤ l.length) (hl : l.length < 20) {H : Hp} {n o : Nat} {full : Bool} (hH : H o = some (.cells (CT l))) :
 BN Tryz.prog 188 [.sl o 0 2 l.length full, AA l.length, .fn (.func 120) [] []] H n (fun v h' n' => v = .tup [] ∧ h' = hset H o (some (.cells (CT (CS l l.length)))) ∧ n' = n) := by
 refine Da Tryz.func188 rfl fun ho => ?_
 have hHb := ho.lt
 have hon := hHb o _ hH
 have hcl : ∀ L : List BS, closedL n (CT L) = true := fun L => by
  induction L with
  | nil => rfl
  | cons d L ih => rw [EU]; simp [closedL, closed, ih]
 have hOld : FM (hset H o (some (.cells (CT (CS l l.length))))) n := fun j y e => by
  simp only [hset] at e
  split at e
  · subst_vars; cases e; exact ⟨hon, hcl _⟩
  · exact ho j y e
 refine AZ 0 [(0, .sl o 0 2 l.length full), (1, AA l.length), (2, .fn (.func 120) [] []), (6, AA 20)] H n ?_ (fun m hm => ?_)
 · simp [go_sem, Jo]
 refine AZ 0 [(0, .sl o 0 2 l.length full), (1, AA l.length), (2, .fn (.func 120) [] []), (6, AA 20), (7, AA 0), (8, AA 20)] H n ?_ (fun m hm => ?_)
 · simp [go_sem, Jo, hm]
 refine Bf 0 [(0, .sl o 0 2 l.length full), (1, AA l.length), (2, .fn (.func 120) [] []), (6, AA 20), (7, AA 0), (8, AA 20)] H n (AK ?_) (fun m hm => ?_)
 · simp [go_sem]
   refine Aq 0 (α := Unit) (fun _ => [(0, .sl o 0 2 l.length full), (1, AA l.length), (2, .fn (.func 120) [] []), (6, AA 20), (7, AA 0), (8, AA 20)]) (fun _ => H) (fun _ m => n ≤ m) (fun _ => 0) () hm ?_ AB ?_
   · simp [Am, Jo]
   rintro _ m hm
   have : ¬ ((20 : Int) ≤ l.length) := by omega
   simp [go_sem, Jo, hm, this]
 refine Bf 0 [(1, AA l.length), (6, AA 20)] (hset H o (some (.cells (CT (CS l l.length))))) n (AK ?_) (fun m hm => ?_)
 · simp [go_sem]
   refine Y9 (d254 l hl0 (by omega) hH) ?_
   rintro v H' n' ⟨rfl, rfl, rfl⟩
   simp [go_sem, Jo, hm]
 refine AK ?_
 simp [go_sem]
 refine Aq 0 (α := Unit) (fun _ => [(1, AA l.length), (6, AA 20)]) (fun _ => hset H o (some (.cells (CT (CS l l.length))))) (fun _ m => n ≤ m) (fun _ => 0) () hm ?_ AB ?_
 · simp [Am, Jo]
 rintro _ m hm
 have : ¬ ((20 : Int) < l.length) := by omega
 simp [go_sem, this]
 exact CY hOld (by simp [closed, closedL]) AB
theorem d119 (l : List BS) (hl0 : 1 ≤ l.length) (hl : l.length < 20) {H : Hp} {n o : Nat} {full : Bool} (hH : H o = some (.cells (CT l))) :
 BN Tryz.prog 119 [.sl o 0 2 l.length full, .fn (.func 120) [] []] H n (fun v h' n' => v = .tup [] ∧ h' = hset H o (some (.cells (CT (CS l l.length)))) ∧ n' = n) := by
 refine Da Tryz.func119 rfl fun ho => ?_
 have hHb := ho.lt
 have hon := hHb o _ hH
 have hcl : ∀ L : List BS, closedL n (CT L) = true := fun L => by
  induction L with
  | nil => rfl
  | cons d L ih => rw [EU]; simp [closedL, closed, ih]
 have hOld : FM (hset H o (some (.cells (CT (CS l l.length))))) n := fun j y e => by
  simp only [hset] at e
  split at e
  · subst_vars; cases e; exact ⟨hon, hcl _⟩
  · exact ho j y e
 refine AK ?_
 simp [go_sem]
 refine Y9 (d188 l hl0 hl hH) ?_
 rintro v H' n' ⟨rfl, rfl, rfl⟩
 simp [go_sem]
 exact CY hOld (by simp [closed, closedL]) AB
def Tb : Tr := .pure 8 (.pure 9 (.one 7 (.one 10 (.one 11 (.one 12 (.one 13 .nil))))))
def trH : Tr := .pure 0 (.pure 1 (.pure 4 (.pure 5 (.two 2 6 (.two 3 6 (.one 6 Tb) (.one 3 Tb)) (.one 2 (.one 3 Tb))))))
abbrev Q9 : BY := .cells [.imm 0 [] true, AA 0, AA 0, .imm 0 [] true, .imm 0 [] true]
set_option maxHeartbeats 4000000 in
theorem a118 (x : AF) (hs : x.sized) {h : Hp} {n : Nat} : BN Tryz.prog 118 [x.enc] h n (fun v h' n' => ∃ v1 o1 v2 o2, v = .agg [Ag x.props, AA x.ins, AA x.move, v1, v2] ∧ Gc 2 (x.dels.map BS.enc) v1 o1 n n' ∧ Gc 4 (x.layers.map Az.enc) v2 o2 n n' ∧
 (∀ j, o1 = some j → o2 ≠ some j) ∧ n ≤ n' ∧ ∀ j y, C4 (x.layers.map Az.enc) o2 (C4 (x.dels.map BS.enc) o1 h) j = some y → h' j = some y) := by
 refine Da Tryz.func118 rfl fun ho => ?_
 have hHb := ho.lt
 have q1 : n ≠ n + 1 := by omega
 refine Bn 0 [(1, .ptr n 0), (2, .ptr (n + 1) 0)] (hset (hset h n (some (.cells x.flat))) (n + 1) (some Q9)) (fun m => n + 2 = m) ?_ (fun m hm => ?_)
 · simp [go_sem, AF.enc, AF.flat, Jo]
 subst hm
 refine Bn 0 [(1, .ptr n 0), (2, .ptr (n + 1) 0)] (hset (hset h n (some (.cells x.flat))) (n + 1) (some Q9)) (fun m => n + 2 ≤ m) ?_ (fun m hm => ?_)
 · simp [go_sem, AF.flat, AD _ _ q1, AC]
   refine (UJ _ hs.props).use ?_
   simp [go_sem, AD _ _ q1, AC, Jo]
   intro j y; simp only [hset]; grind
 refine AV 0 (α := SV × Option Nat × SV × Option Nat) (fun _ => [(1, .ptr n 0), (2, .ptr (n + 1) 0)])
  (fun a => C4 (x.layers.map Az.enc) a.2.2.2 (C4 (x.dels.map BS.enc) a.2.1 (hset (hset h n (some (.cells [Ag x.props, AA x.ins, AA x.move, a.1, a.2.2.1]))) (n + 1) (some Q9))))
  (fun a m' => Gc 2 (x.dels.map BS.enc) a.1 a.2.1 (n + 2) m' ∧ Gc 4 (x.layers.map Az.enc) a.2.2.1 a.2.2.2 (n + 2) m' ∧ (∀ j, a.2.1 = some j → a.2.2.2 ≠ some j) ∧ n + 2 ≤ m') (Bt trH rfl (by kernel_rfl) (by kernel_rfl) ?_) ?_
 · have hG1 : hset (hset h n (some (.cells x.flat))) (n + 1) (some Q9) n = some (.cells [Ag x.props, AA x.ins, AA x.move, Aa x.dels, AO x.layers]) := by rw [AD _ _ q1, AC]; rfl
   simp [go_sem, trH, Tb, hG1]
   iterate 8 (all_goals (try first
    | (refine LC.use (l186 _ hs.dels) ?_; intro v1 H1 m1 W1; have lt1 := W1.1; obtain ⟨o1, a1, b1, c1⟩ := W1.own; obtain ⟨s1, t1⟩ := a1.st; simp only [SV.storable, SV.cells] at s1 t1; (first | have hq := b1 n _ hq2 | have hq := b1 n _ hG1); simp [go_sem, hq])
    | (refine LC.use (l187 _ hs.layers) ?_; intro v2 H2 m2 W2; have LL := W2.1; obtain ⟨o2, a2, b2, c2⟩ := W2.own; obtain ⟨s2, t2⟩ := a2.st; simp only [SV.storable, SV.cells] at s2 t2; (first | have hq2 := b2 n _ hq | have hq2 := b2 n _ hG1); simp [go_sem, hq2, s2, t2])
    | refine ⟨?_, ?_⟩))
   all_goals
    have L1 := a1.lt
    have L2 := a2.lt
    simp [go_sem, s1, t1, AC, Ai]
    refine ⟨v1, o1, v2, o2, ⟨a1.mono (by omega) (by omega), a2.mono (by omega) (by omega), fun j e e' => ?_, ?_⟩, fun j y => ?_⟩
    · have := L1 _ e; have := L2 _ e'; omega
    · omega
    · intro hy
      have r1 := b1 j
      have r2 := b2 j
      have q3 := c1 j
      have q4 := c2 j
      have r3 := L1 j
      have r4 := L2 j
      have q6 := hHb j y
      clear b1 b2 c1 c2 L1 L2 W1 W2 a1 a2
      simp only [hset] at *
      cases o1 <;> cases o2 <;> simp only [C4, hset] at hy <;> grind
 rintro ⟨v1, o1, v2, o2⟩ m ⟨a1, a2, h12, hm⟩
 dsimp only at a1 a2 h12 hm ⊢
 have L1 := a1.lt
 have L2 := a2.lt
 obtain ⟨s1, t1⟩ := a1.st
 obtain ⟨s2, t2⟩ := a2.st
 simp only [SV.storable, SV.cells] at s1 t1 s2 t2
 generalize hB : C4 (x.layers.map Az.enc) o2 (C4 (x.dels.map BS.enc) o1 (hset (hset h n (some (.cells [Ag x.props, AA x.ins, AA x.move, v1, v2]))) (n + 1) (some Q9))) = B
 have B0 : B n = some (.cells [Ag x.props, AA x.ins, AA x.move, v1, v2]) := by
  rw [← hB]
  have r3 := L1 n
  have r4 := L2 n
  cases o1 <;> cases o2 <;> simp only [C4, hset] <;> grind
 have B1 : B (n + 1) = some Q9 := by
  rw [← hB]
  have r3 := L1 (n + 1)
  have r4 := L2 (n + 1)
  cases o1 <;> cases o2 <;> simp only [C4, hset] <;> grind
 have B2 : ∀ j y, C4 (x.layers.map Az.enc) o2 (C4 (x.dels.map BS.enc) o1 h) j = some y → hset B (n + 1) (some (.cells [Ag x.props, AA x.ins, AA x.move, v1, v2])) j = some y := fun j y => by
  rw [← hB]
  have r3 := L1 j
  have r4 := L2 j
  have q6 := hHb j y
  cases o1 <;> cases o2 <;> simp only [C4, hset] <;> grind
 refine AK ?_
 simp [go_sem, B0, B1, AC]
 exact .inl ⟨v1, o1, v2, rfl, a1.mono (by omega) (JO _), o2, a2.mono (by omega) (JO _), h12, by omega, B2⟩
theorem Kw {z k i : Nat} {es : List SV} {e e' c : SV} (hs : ∀ e ∈ es, e.storable = true ∧ e.cells.length = z) (h : es[i]? = some e) (hk : k < z) (he : e'.cells = e.cells.take k ++ c :: e.cells.drop (k + 1)) :
 (es.flatMap SV.cells).take (i * z + k) ++ c :: (es.flatMap SV.cells).drop (i * z + k + 1) = (es.set i e').flatMap SV.cells := by
 have hi := (Ky.1 h).1
 have hee := (Ky.1 h).2
 have hez := (hs e (YD h)).2
 have h1 : es = es.take i ++ e :: es.drop (i + 1) := by rw [← hee, List.getElem_cons_drop, YG]
 have hl : ((es.take i).flatMap SV.cells).length = i * z := by
  rw [BK (z := z) fun e he => hs e (Yf he), Zu, Ze (by omega)]
 rw [ZP, if_pos hi]
 have h2 : es.flatMap SV.cells = (es.take i).flatMap SV.cells ++ (e.cells ++ (es.drop (i + 1)).flatMap SV.cells) := by
  conv => lhs; rw [h1]
  simp
 rw [h2, YM, Yx, he]
 generalize (es.take i).flatMap SV.cells = A at hl ⊢
 generalize (es.drop (i + 1)).flatMap SV.cells = B
 rw [← hl, List.take_append, List.drop_append, Y8 (by omega : A.length ≤ A.length + k), Zg (by omega : A.length ≤ A.length + k + 1)]
 rw [show A.length + k - A.length = k by omega, show A.length + k + 1 - A.length = k + 1 by omega, X7 (by omega), List.drop_append_of_le_length (by omega)]
 simp
def FF (p : Int → Bool) (id y : Int) : Int := if p y then id else y
def BM (p : Int → Bool) (id : Int) (d : BS) : BS := { d with rev := FF p id d.rev }
def BE (p : Int → Bool) (id : Int) (d : Az) : Az := { d with rev := FF p id d.rev }
def DT (p : Int → Bool) (id y : Int) : Int := if y ≠ 0 ∧ p y = true then id else y
def Ci (p : Int → Bool) (id : Int) (h : AF) : AF := { h with ins := DT p id h.ins, dels := CS (h.dels.map (BM p id)) h.dels.length, layers := h.layers.map (BE p id) }
def DL {α : Type} (f : α → α) (l : List α) (i : Nat) : List α := (l.take i).map f ++ l.drop i
theorem Ii {α : Type} (f : α → α) (l : List α) : DL f l 0 = l := by simp [DL]
theorem Jp {α : Type} (f : α → α) (l : List α) : DL f l l.length = l.map f := by simp [DL]
theorem Jr {α : Type} (f : α → α) (l : List α) (i : Nat) (hi : i ≤ l.length) : (DL f l i).length = l.length := by simp [DL]; omega
theorem Jq {α : Type} (f : α → α) (l : List α) (i : Nat) (hi : i < l.length) : (DL f l i)[i]? = some l[i] := by
 simp only [DL]
 rw [Yq (by simp; omega)]
 simp [Ze (Zk hi), hi]
theorem Ih {α : Type} (f : α → α) (l : List α) (i : Nat) (hi : i < l.length) : (DL f l i).set i (f l[i]) = DL f l (i + 1) := by
 simp only [DL]
 rw [Zy _ _ (by simp; omega)]
 have : ((l.take i).map f).length = i := by simp; omega
 rw [this, Xv, Yi hi, List.set_cons_zero, JW hi, K1, Y3, YR, KF]
 rfl
theorem c254v (v0 : SV) : PC 254 [v0, AA 0, AA 0, .fn (.func 120) [] []] (.tup []) := by
 intro h n
 refine gq Tryz.func254 rfl fun ho => ?_
 simp [go_sem]
 refine Aq 1 (α := Unit) (fun k => [(2, AA 0), (8, AA 1)]) (fun _ => h) (fun k m => n ≤ m) (fun k => 0) () ?_ ?_ AB ?_
 · omega
 · simp [Am, show IntKind.i64.wrap 1 = 1 from by decide, Jo]
 rintro _ m hm
 simp [go_sem]
 exact Ax ho AB rfl rfl
theorem c188v (v0 : SV) : PC 188 [v0, AA 0, .fn (.func 120) [] []] (.tup []) := by
 intro h n
 refine gq Tryz.func188 rfl fun ho => ?_
 simp [go_sem]
 refine Aq 1 (α := Unit) (fun k => [(0, v0), (1, AA 0), (2, .fn (.func 120) [] []), (6, AA 20), (7, AA 0), (8, AA 20)]) (fun _ => h) (fun k m => n ≤ m) (fun k => 0) () ?_ ?_ AB ?_
 · omega
 · simp [Am]
 rintro _ m hm
 simp [go_sem]
 refine Y4 (c254v v0) ?_
 simp [go_sem]
 refine Aq 1 (α := Unit) (fun k => [(1, AA 0), (6, AA 20)]) (fun _ => h) (fun k m => n ≤ m) (fun k => 0) () ?_ ?_ AB ?_
 · omega
 · simp [Am]
 rintro _ m hm
 simp [go_sem]
 exact Ax ho AB rfl rfl
theorem c119v (o : Nat) (full : Bool) : PC 119 [.sl o 0 2 0 full, .fn (.func 120) [] []] (.tup []) := by
 intro h n
 refine gq Tryz.func119 rfl fun ho => ?_
 simp [go_sem]
 refine Y4 (c188v _) ?_
 simp [go_sem]
 exact Ax ho AB rfl rfl
def IG (l : List Az) : List SV := (l.map Az.enc).flatMap SV.cells
def RE (x : AF) (h : Hp) (n : Nat) (v1 : SV) (o1 : Option Nat) (v2 : SV) (o2 : Option Nat) (y : Int) (E : List BS) (F : List Az) : Hp :=
 C4 (F.map Az.enc) o2 (C4 (E.map BS.enc) o1 (hset (hset h n (some (.cells [Ag x.props, AA y, AA x.move, v1, v2]))) (n + 1) (some Q9)))
structure RnW (x : AF) (h : Hp) (n : Nat) (v1 : SV) (o1 : Option Nat) (v2 : SV) (o2 : Option Nat) (W : Int → List BS → List Az → Hp) : Prop where
 w0 : ∀ y E F, W y E F n = some (.cells [Ag x.props, AA y, AA x.move, v1, v2])
 w1 : ∀ y E F, W y E F (n + 1) = some Q9
 wd : ∀ j, o1 = some j → ∀ y E F, W y E F j = some (.cells (CT E))
 wl : ∀ j, o2 = some j → ∀ y E F, W y E F j = some (.cells (IG F))
 sy : ∀ y z E F, hset (W y E F) n (some (.cells [Ag x.props, AA z, AA x.move, v1, v2])) = W z E F
 sd : ∀ j, o1 = some j → ∀ y E F E', hset (W y E F) j (some (.cells (CT E'))) = W y E' F
 sl : ∀ j, o2 = some j → ∀ y E F F', hset (W y E F) j (some (.cells (IG F'))) = W y E F'
 old : ∀ y E F j z, h j = some z → W y E F j = some z
theorem rnW {x : AF} {h : Hp} {n m : Nat} {v1 v2 : SV} {o1 o2 : Option Nat} {es1 es2 : List SV} (hb : ∀ j y, h j = some y → j < n) (a1 : Gc 2 es1 v1 o1 (n + 2) m) (a2 : Gc 4 es2 v2 o2 (n + 2) m) (h12 : ∀ j, o1 = some j → o2 ≠ some j) : RnW x h n v1 o1 v2 o2 (RE x h n v1 o1 v2 o2) := by
 have L1 := a1.lt
 have L2 := a2.lt
 clear a1 a2
 constructor
 · intro y E F
   have r3 := L1 n
   have r4 := L2 n
   cases o1 <;> cases o2 <;> simp only [RE, C4, hset] <;> grind
 · intro y E F
   have r3 := L1 (n + 1)
   have r4 := L2 (n + 1)
   cases o1 <;> cases o2 <;> simp only [RE, C4, hset] <;> grind
 · intro j e y E F
   subst e
   have r4 := h12 j rfl
   cases o2 <;> simp only [RE, C4, hset, CT] <;> grind
 · intro j e y E F
   subst e
   cases o1 <;> simp only [RE, C4, hset, IG] <;> grind
 · intro y z E F
   funext j
   have r3 := L1 n
   have r4 := L2 n
   cases o1 <;> cases o2 <;> simp only [RE, C4, hset] <;> grind
 · intro j e y E F E'
   subst e
   have r4 := h12 j rfl
   funext i
   cases o2 <;> simp only [RE, C4, hset, CT] <;> grind
 · intro j e y E F F'
   subst e
   funext i
   cases o1 <;> simp only [RE, C4, hset, IG] <;> grind
 · intro y E F j z e
   have r3 := L1 j
   have r4 := L2 j
   have := hb j z e
   cases o1 <;> cases o2 <;> simp only [RE, C4, hset] <;> grind
section
variable {g : FuncId} {a b : List SV} {p : Int → Bool}
set_option maxHeartbeats 4000000 in
theorem c47g (x : AF) (hs : x.sized) (hd : x.dels.length < 20) (hg : ∀ y, PC g (a ++ [AA y] ++ b) (.bool (p y))) (id : Int) : PC 47 [x.enc, AA id, .fn (.func g) a b] (Ci p id x).enc := by
 intro h n
 refine Da Tryz.func47 rfl fun ho => ?_
 have hHb := ho.lt
 have q1 : n ≠ n + 1 := by omega
 refine Bn 0 [(1, AA id), (2, .fn (.func g) a b), (3, .ptr n 0), (6, .ptr (n + 1) 0)] (hset (hset h n (some (.cells x.flat))) (n + 1) (some Q9)) (fun m => n + 2 = m) ?_ (fun m hm => ?_)
 · simp [go_sem, AF.enc, AF.flat, Jo]
 subst hm
 refine BO 0 (α := SV × Option Nat × SV × Option Nat) (fun q => [(1, AA id), (2, .fn (.func g) a b), (3, .ptr n 0), (6, .ptr (n + 1) 0)]) (fun q => RE x h n q.1 q.2.1 q.2.2.1 q.2.2.2 x.ins x.dels x.layers)
  (fun q m' => Gc 2 (x.dels.map BS.enc) q.1 q.2.1 (n + 2) m' ∧ Gc 4 (x.layers.map Az.enc) q.2.2.1 q.2.2.2 (n + 2) m' ∧ (∀ j, q.2.1 = some j → q.2.2.2 ≠ some j) ∧ n + 2 ≤ m') ?_ ?_
 · simp [go_sem, AF.flat, AD _ _ q1, AC]
   refine Y9 (a118 x hs) ?_
   rintro v H' n' ⟨v1, o1, v2, o2, rfl, a1, a2, h12, hn', hH⟩
   obtain ⟨s1, t1⟩ := a1.st
   obtain ⟨s2, t2⟩ := a2.st
   have L1 := a1.lt
   have L2 := a2.lt
   have hn : H' n = some (.cells [Ag x.props, AA x.ins, AA x.move, Aa x.dels, AO x.layers]) := by
    refine hH n _ ?_
    have r3 := L1 n
    have r4 := L2 n
    cases o1 <;> cases o2 <;> simp only [C4, hset] <;> grind
   simp [go_sem, hn]
   refine ⟨v1, o1, v2, o2, ⟨a1, a2, h12, hn'⟩, fun j y e => ?_⟩
   have r1 := hH j y
   have r3 := L1 j
   have r4 := L2 j
   have q6 := hHb j y
   clear hH L1 L2 a1 a2 hn
   revert e
   cases o1 <;> cases o2 <;> simp only [RE, C4, hset] at r1 ⊢ <;> grind
 rintro ⟨v1, o1, v2, o2⟩ m ⟨a1, a2, h12, hm⟩
 dsimp only at a1 a2 h12 hm ⊢
 have R := rnW (x := x) hHb a1 a2 h12
 generalize RE x h n v1 o1 v2 o2 = W at R ⊢
 refine AZ 0 [(1, AA id), (2, .fn (.func g) a b), (3, .ptr n 0), (6, .ptr (n + 1) 0), (7, .ptr n 1)] (W x.ins x.dels x.layers) m ?_ (fun m2 hm2 => ?_)
 · simp [go_sem, Jo]
 have hid : ∀ y, PC g (a ++ AA y :: b) (.bool (p y)) := fun y => by simpa using hg y
 refine Bf 0 [(1, AA id), (2, .fn (.func g) a b), (3, .ptr n 0), (6, .ptr (n + 1) 0), (7, .ptr n 1)] (W (DT p id x.ins) x.dels x.layers) m ?_ (fun m3 hm3 => ?_)
 · refine AK ?_
   by_cases i0 : x.ins = 0
   · have hr : DT p id x.ins = x.ins := by simp [DT, i0]
     rw [hr]
     simp [go_sem, R.w0, i0, Jo, hm2]
   · have i1 : (x.ins != 0) = true := by simpa using i0
     simp [go_sem, R.w0, i1]
     refine Y4 (hid x.ins) ?_
     cases hp : p x.ins with
     | true =>
      have hr : DT p id x.ins = id := by simp [DT, i0, hp]
      rw [hr]
      simp [go_sem, R.w0, R.sy, Jo, hm2]
     | false =>
      have hr : DT p id x.ins = x.ins := by simp [DT, hp]
      rw [hr]
      simp [go_sem, Jo, hm2]
 generalize hy : DT p id x.ins = y
 refine Bf 0 [(1, AA id), (2, .fn (.func g) a b), (3, .ptr n 0), (6, .ptr (n + 1) 0), (7, .ptr n 1)] (W y (x.dels.map (BM p id)) x.layers) m ?_ (fun m4 hm4 => ?_)
 · rcases a1 with ⟨_, he, z', f, rfl⟩ | ⟨j, f, rfl, hj1, hj2, rfl⟩
   · have hd0 : x.dels = [] := by simpa using he
     refine AK ?_
     simp [go_sem, R.w0, hd0]
     refine Aq 0 (α := Unit) (fun _ => [(1, AA id), (2, .fn (.func g) a b), (3, .ptr n 0), (6, .ptr (n + 1) 0), (7, .ptr n 1), (34, AA 0), (35, AA 0)]) (fun _ => W y [] x.layers) (fun _ m' => m ≤ m') (fun _ => 0) () hm3 ?_ AB ?_
     · simp [Am, Jo]
     rintro _ m5 hm5
     simp [go_sem, Jo, hm5]
   · refine AZ 0 [(1, AA id), (2, .fn (.func g) a b), (3, .ptr n 0), (6, .ptr (n + 1) 0), (7, .ptr n 1), (34, AA x.dels.length), (35, AA 0)] (W y x.dels x.layers) m ?_ (fun m5 hm5 => ?_)
     · simp [go_sem, R.w0, Jo, hm3]
     refine AX (BX 0 (α := Nat) (fun i => [(1, AA id), (2, .fn (.func g) a b), (3, .ptr n 0), (6, .ptr (n + 1) 0), (7, .ptr n 1), (34, AA x.dels.length), (35, AA i)]) (fun i => W y (DL (BM p id) x.dels i) x.layers) (fun i m' => i ≤ x.dels.length ∧ m ≤ m') (fun i => x.dels.length - i) 0 ⟨K2 _, hm5⟩ ?_ ?_ ?_)
     · simp [Am, Jo]
     · rw [Ii]; exact AB
     rintro i m6 ⟨hi, hm6⟩
     by_cases hlt : i < x.dels.length
     · have w1 := wS i (by omega)
       have hnx := Ih (BM p id) x.dels i hlt
       have hEl := Jr (BM p id) x.dels i (Zk hlt)
       have hget := Jq (BM p id) x.dels i hlt
       obtain ⟨d, hd'⟩ : ∃ d, x.dels[i] = d := ⟨_, rfl⟩
       rw [hd'] at hnx hget
       generalize hE : DL (BM p id) x.dels i = E at hnx hEl hget
       have hget2 : (E.map BS.enc)[i]? = some d.enc := by rw [Yh, hget]; rfl
       obtain ⟨g1, g2⟩ := Iz (BS.E.size E) hget2 (k := 0) (c := AA d.rev) rfl
       have g3 : p d.rev = true → ((E.map BS.enc).flatMap SV.cells).take (i * 2 + 0) ++ AA id :: ((E.map BS.enc).flatMap SV.cells).drop (i * 2 + 0 + 1) = CT (DL (BM p id) x.dels (i + 1)) := fun hp => by
        rw [Kw (e' := (BM p id d).enc) (BS.E.size E) hget2 (by omega) (by simp [BM, FF, hp, BS.enc, SV.cells]), ← hnx, CT, Xw]
       have g4 : p d.rev = false → DL (BM p id) x.dels (i + 1) = E := fun hp => by
        rw [← hnx, show BM p id d = d by simp [BM, FF, hp]]
        obtain ⟨k1, k2⟩ := Ky.1 hget
        rw [← k2]; exact XB k1
       obtain ⟨E2, hE2⟩ : ∃ E2, DL (BM p id) x.dels (i + 1) = E2 := ⟨_, rfl⟩
       rw [hE2] at g3 g4
       have hWE : ∀ y F, W y E F j = some (.cells (CT E)) := fun y F => R.wd j rfl y E F
       rw [show (E.map BS.enc).flatMap SV.cells = CT E from rfl] at g1 g2 g3
       simp only [Z7] at g1 g2 g3
       refine AZ 0 [(1, AA id), (2, .fn (.func g) a b), (3, .ptr n 0), (6, .ptr (n + 1) 0), (7, .ptr n 1), (34, AA x.dels.length), (35, AA i), (36, .bool true)] (W y E x.layers) m ?_ (fun m7 hm7 => ?_)
       · simp [go_sem, Jo, hlt, hm6]
       refine AZ 0 [(1, AA id), (2, .fn (.func g) a b), (3, .ptr n 0), (6, .ptr (n + 1) 0), (7, .ptr n 1), (34, AA x.dels.length), (35, AA i)] (W y E x.layers) m ?_ (fun m8 hm8 => ?_)
       · simp [go_sem, Jo, hm7]
       refine AV 0 (α := Unit) (fun _ => [(1, AA id), (2, .fn (.func g) a b), (3, .ptr n 0), (6, .ptr (n + 1) 0), (7, .ptr n 1), (34, AA x.dels.length), (35, AA i)]) (fun _ => W y E2 x.layers) (fun _ m' => m ≤ m') (AX ?_) (fun _ m9 hm9 => ?_)
       · refine AZ 0 [(1, AA id), (2, .fn (.func g) a b), (3, .ptr n 0), (6, .ptr (n + 1) 0), (7, .ptr n 1), (34, AA x.dels.length), (35, AA i), (8, AA i)] (W y E x.layers) m ?_ (fun m9 hm9 => ?_)
         · simp [go_sem, Jo, hm8]
         refine AZ 0 [(1, AA id), (2, .fn (.func g) a b), (3, .ptr n 0), (6, .ptr (n + 1) 0), (7, .ptr n 1), (34, AA x.dels.length), (35, AA i), (8, AA i), (47, .bool (p d.rev))] (W y E x.layers) m ?_ (fun m10 hm10 => ?_)
         · simp [go_sem, R.w0, hWE, hlt, g1, g2]
           refine Y4 (hid d.rev) ?_
           simp [go_sem, Jo, hm9]
         cases hp : p d.rev with
         | true =>
          refine Ap (b := true) (by simp [go_sem]) (AK ?_)
          have g3 := g3 hp
          simp [go_sem, R.w0, hWE, hlt, g1, g3, R.sd j rfl, Jo, hm10]
         | false =>
          refine Ap (b := false) (by simp [go_sem]) (AK ?_)
          rw [g4 hp]
          simp [go_sem, Jo, hm10]
       · refine AK ?_
         simp [go_sem, w1, Jo, -Int.natCast_add]
         exact ⟨i + 1, by omega, ⟨by omega, hm9⟩, Jo, by rw [hE2]; exact AB⟩
     · have : i = x.dels.length := by omega
       subst this
       rw [Jp]
       refine AK ?_
       simp [go_sem, Jo]
       exact hm6
 have hdl : (x.dels.map (BM p id)).length = x.dels.length := Kj _
 refine Bf 0 [(1, AA id), (2, .fn (.func g) a b), (3, .ptr n 0), (6, .ptr (n + 1) 0), (7, .ptr n 1)] (W y (CS (x.dels.map (BM p id)) x.dels.length) x.layers) m ?_ (fun m5 hm5 => ?_)
 · rcases a1 with ⟨_, he, z', f, rfl⟩ | ⟨j, f, rfl, hj1, hj2, rfl⟩
   · have hd0 : x.dels = [] := by simpa using he
     refine AK ?_
     simp [go_sem, R.w0, hd0]
     refine Y4 (by exact c119.wk (us := [.imm z' [] f, .fn (.func 120) [] []]) 1 ⟨BR (by simp), Jo, trivial⟩) ?_
     simp [go_sem, Jo, hm4, CS]
   · refine AK ?_
     simp [go_sem, R.w0]
     by_cases hd0 : x.dels = []
     · simp only [hd0, ZL]
       refine Y4 (c119v j f) ?_
       simp [go_sem, Jo, hm4, CS]
     have hl1 : 1 ≤ (x.dels.map (BM p id)).length := by rw [hdl]; exact Y2.2 hd0
     have c := d119 (x.dels.map (BM p id)) hl1 (by omega) (full := f) (n := m4) (R.wd j rfl y (x.dels.map (BM p id)) x.layers)
     rw [hdl, R.sd j rfl] at c
     refine Y9 c ?_
     rintro v H' n' ⟨rfl, rfl, rfl⟩
     simp [go_sem, Jo, hm4]
 have hll := hs.layers
 have hDl : (CS (x.dels.map (BM p id)) x.dels.length).length = x.dels.length := by rw [Fx, hdl]
 obtain ⟨D, hD⟩ : ∃ D, CS (x.dels.map (BM p id)) x.dels.length = D := ⟨_, rfl⟩
 rw [hD] at hDl ⊢
 refine Bf 0 [(1, AA id), (2, .fn (.func g) a b), (3, .ptr n 0), (6, .ptr (n + 1) 0), (7, .ptr n 1)] (W y D (x.layers.map (BE p id))) m ?_ (fun m4 hm4 => ?_)
 · rcases a2 with ⟨_, he, z', f, rfl⟩ | ⟨j, f, rfl, hj1, hj2, rfl⟩
   · have hd0 : x.layers = [] := by simpa using he
     refine AK ?_
     simp [go_sem, R.w0, hd0]
     refine Aq 0 (α := Unit) (fun _ => [(1, AA id), (2, .fn (.func g) a b), (3, .ptr n 0), (6, .ptr (n + 1) 0), (7, .ptr n 1), (66, AA 0), (67, AA 0)]) (fun _ => W y D []) (fun _ m' => m ≤ m') (fun _ => 0) () hm5 ?_ AB ?_
     · simp [Am, Jo]
     rintro _ m5 hm15
     simp [go_sem, Jo, hm15]
   · refine AZ 0 [(1, AA id), (2, .fn (.func g) a b), (3, .ptr n 0), (6, .ptr (n + 1) 0), (7, .ptr n 1), (66, AA x.layers.length), (67, AA 0)] (W y D x.layers) m ?_ (fun m5 hm15 => ?_)
     · simp [go_sem, R.w0, Jo, hm5]
     refine AX (BX 0 (α := Nat) (fun i => [(1, AA id), (2, .fn (.func g) a b), (3, .ptr n 0), (6, .ptr (n + 1) 0), (7, .ptr n 1), (66, AA x.layers.length), (67, AA i)]) (fun i => W y D (DL (BE p id) x.layers i)) (fun i m' => i ≤ x.layers.length ∧ m ≤ m') (fun i => x.layers.length - i) 0 ⟨K2 _, hm15⟩ ?_ ?_ ?_)
     · simp [Am, Jo]
     · rw [Ii]; exact AB
     rintro i m6 ⟨hi, hm6⟩
     by_cases hlt : i < x.layers.length
     · have w1 := wS i (by omega)
       have hnx := Ih (BE p id) x.layers i hlt
       have hEl := Jr (BE p id) x.layers i (Zk hlt)
       have hget := Jq (BE p id) x.layers i hlt
       obtain ⟨d, hd'⟩ : ∃ d, x.layers[i] = d := ⟨_, rfl⟩
       rw [hd'] at hnx hget
       generalize hE : DL (BE p id) x.layers i = E at hnx hEl hget
       have hget2 : (E.map Az.enc)[i]? = some d.enc := by rw [Yh, hget]; rfl
       obtain ⟨g1, g2⟩ := Iz (Az.E.size E) hget2 (k := 0) (c := AA d.rev) rfl
       have g3 : p d.rev = true → ((E.map Az.enc).flatMap SV.cells).take (i * 4 + 0) ++ AA id :: ((E.map Az.enc).flatMap SV.cells).drop (i * 4 + 0 + 1) = IG (DL (BE p id) x.layers (i + 1)) := fun hp => by
        rw [Kw (e' := (BE p id d).enc) (Az.E.size E) hget2 (by omega) (by simp [BE, FF, hp, Az.enc, SV.cells]), ← hnx, IG, Xw]
       have g4 : p d.rev = false → DL (BE p id) x.layers (i + 1) = E := fun hp => by
        rw [← hnx, show BE p id d = d by simp [BE, FF, hp]]
        obtain ⟨k1, k2⟩ := Ky.1 hget
        rw [← k2]; exact XB k1
       obtain ⟨E2, hE2⟩ : ∃ E2, DL (BE p id) x.layers (i + 1) = E2 := ⟨_, rfl⟩
       rw [hE2] at g3 g4
       rw [show (E.map Az.enc).flatMap SV.cells = IG E from rfl] at g1 g2 g3
       have hWE : ∀ y G, W y G E j = some (.cells (IG E)) := fun y G => R.wl j rfl y G E
       simp only [Z7] at g1 g2 g3
       refine AZ 0 [(1, AA id), (2, .fn (.func g) a b), (3, .ptr n 0), (6, .ptr (n + 1) 0), (7, .ptr n 1), (66, AA x.layers.length), (67, AA i), (68, .bool true)] (W y D E) m ?_ (fun m7 hm7 => ?_)
       · simp [go_sem, Jo, hlt, hm6]
       refine AZ 0 [(1, AA id), (2, .fn (.func g) a b), (3, .ptr n 0), (6, .ptr (n + 1) 0), (7, .ptr n 1), (66, AA x.layers.length), (67, AA i)] (W y D E) m ?_ (fun m8 hm8 => ?_)
       · simp [go_sem, Jo, hm7]
       refine AV 0 (α := Unit) (fun _ => [(1, AA id), (2, .fn (.func g) a b), (3, .ptr n 0), (6, .ptr (n + 1) 0), (7, .ptr n 1), (66, AA x.layers.length), (67, AA i)]) (fun _ => W y D E2) (fun _ m' => m ≤ m') (AX ?_) (fun _ m9 hm9 => ?_)
       · refine AZ 0 [(1, AA id), (2, .fn (.func g) a b), (3, .ptr n 0), (6, .ptr (n + 1) 0), (7, .ptr n 1), (66, AA x.layers.length), (67, AA i), (9, AA i)] (W y D E) m ?_ (fun m9 hm9 => ?_)
         · simp [go_sem, Jo, hm8]
         refine AZ 0 [(1, AA id), (2, .fn (.func g) a b), (3, .ptr n 0), (6, .ptr (n + 1) 0), (7, .ptr n 1), (66, AA x.layers.length), (67, AA i), (9, AA i), (79, .bool (p d.rev))] (W y D E) m ?_ (fun m10 hm10 => ?_)
         · simp [go_sem, R.w0, hWE, hlt, g1, g2]
           refine Y4 (hid d.rev) ?_
           simp [go_sem, Jo, hm9]
         cases hp : p d.rev with
         | true =>
          refine Ap (b := true) (by simp [go_sem]) (AK ?_)
          have g3 := g3 hp
          simp [go_sem, R.w0, hWE, hlt, g1, g3, R.sl j rfl, Jo, hm10]
         | false =>
          refine Ap (b := false) (by simp [go_sem]) (AK ?_)
          rw [g4 hp]
          simp [go_sem, Jo, hm10]
       · refine AK ?_
         simp [go_sem, w1, Jo, -Int.natCast_add]
         exact ⟨i + 1, by omega, ⟨by omega, hm9⟩, Jo, by rw [hE2]; exact AB⟩
     · have : i = x.layers.length := by omega
       subst this
       rw [Jp]
       refine AK ?_
       simp [go_sem, Jo]
       exact hm6
 have hval : (Ci p id x).enc = .agg [Ag x.props, AA y, AA x.move, Aa D, AO (x.layers.map (BE p id))] := by
  rw [← hy, ← hD]; rfl
 have e1 : ∀ h', (∀ j, o1 = some j → h' j = some (.cells (CT D))) → Fz h' h 1 v1 (Aa D) := fun h' hh => by
  rcases a1 with ⟨_, he, z', f, rfl⟩ | ⟨j, f, rfl, hj1, hj2, rfl⟩
  · have hd0 : x.dels = [] := by simpa using he
    have : D = [] := X8 (by rw [hDl, hd0]; rfl)
    rw [this]; exact BR (by simp)
  · have := DN (h' := h') (h := h) (k := 0) (z := 2) (es := D.map BS.enc) (full := f) (full' := false) (o := j) (ho.none (by omega)) (by simp) (hh j rfl) (BS.E.size D)
    rw [Kj, hDl] at this; rw [Kj]; exact this
 have e2 : ∀ h', (∀ j, o2 = some j → h' j = some (.cells (IG (x.layers.map (BE p id))))) → Fz h' h 1 v2 (AO (x.layers.map (BE p id))) := fun h' hh => by
  rcases a2 with ⟨_, he, z', f, rfl⟩ | ⟨j, f, rfl, hj1, hj2, rfl⟩
  · have hd0 : x.layers = [] := by simpa using he
    rw [hd0]; exact BR (by simp)
  · have := DN (h' := h') (h := h) (k := 0) (z := 4) (es := (x.layers.map (BE p id)).map Az.enc) (full := f) (full' := false) (o := j) (ho.none (by omega)) (by simp) (hh j rfl) (Az.E.size _)
    rw [Kj, Kj] at this; rw [Kj]; exact this
 obtain ⟨s1, t1⟩ := a1.st
 obtain ⟨s2, t2⟩ := a2.st
 have L1 := a1.lt
 have L2 := a2.lt
 simp only [SV.storable, SV.cells] at s1 t1 s2 t2
 rw [hval]
 refine AK ?_
 have W0 := R.w0 y D (x.layers.map (BE p id))
 have W1 := R.w1 y D (x.layers.map (BE p id))
 have WD := fun j e => R.wd j e y D (x.layers.map (BE p id))
 have WL := fun j e => R.wl j e y D (x.layers.map (BE p id))
 have WO := R.old y D (x.layers.map (BE p id))
 simp [go_sem, W0, W1, AC]
 refine Db (v := .agg [Ag x.props, AA y, AA x.move, Aa D, AO (x.layers.map (BE p id))]) 2 ho (AJ (fun j z e => by have := hHb j z e; omega) WO) (.inr ⟨Jo, Jo, Jo, e1 _ (fun j e => ?_), e2 _ (fun j e => ?_), trivial⟩) (by simp [closed, closedL, Eu.E.closedL, BS.E.closedL, Az.E.closedL, -List.map_map])
 · have := L1 j e
   rw [AD _ _ (by omega)]; exact WD j e
 · have := L2 j e
   rw [AD _ _ (by omega)]; exact WL j e
end
def U8 (a id : Int) (s : Unit) (p : B6) : AF × Bool × Unit := (if p.mid then Ci (fun y => y == a) id p.head else p.head, true, s)
theorem v46g (n0 : Nat) (r : Av) (a : Int) : Lm NP n0 46 [] [.iptr [AA r.id, .str r.author, AA r.time], .iptr [AA a]] (U8 a r.id) (fun x => x.sized ∧ x.dels.length < 20) where
 lt _ _ _ := rfl
 dom _ _ _ _ := rfl
 cl _ _ _ e := by cases e
 call s p H n hp hn hs := by
  rw [Tg]
  refine Da Tryz.func46 rfl fun ho => ?_
  have hHb := ho.lt
  have q1 : n + 1 ≠ n := by omega
  obtain ⟨X, hX⟩ : ∃ X : SV, X = .iptr (p.head.flat ++ [.bool p.mid, AA p.units]) := ⟨_, rfl⟩
  refine Bn 1 [(1, .iptr [AA r.id, .str r.author, AA r.time]), (2, .iptr [AA a]), (3, X), (4, .ptr (n + 1) 0)] (hset H (n + 1) (some (.cells [.imm 0 [] true, AA 0, AA 0, .imm 0 [] true, .imm 0 [] true]))) (fun m => n + 2 ≤ m) ?_ (fun m hm => ?_)
  · rw [hX]
    simp [go_sem, B6.enc, AF.flat, Jo]
    refine ⟨AW (by rw [AD _ _ q1.symm]; exact ho.none (JO n)) (by simp [hset]), fun j y => ?_⟩
    have := hHb j y; simp only [hset]; grind
  have hcl : ∀ x : AF, closed n (.tup [x.enc, .bool true]) = true := fun x => by simp [closed, closedL, AF.E.cl]
  have fin : ∀ (x : AF) (y : BY) (m' : Nat), U8 a r.id s p = (x, true, s) → CE n (hset H (n + 1) (some y)) m' (.tup [x.enc, .bool true]) (fun v h' n' => v = .tup [(U8 a r.id s p).1.enc, .bool (U8 a r.id s p).2.1] ∧ h' = H ∧ n' = n) := fun x y m' e => by rw [e]; exact CY ho (hcl x) (AJ (fun j z e => by have := hHb j z e; omega) AB)
  rw [hX]
  refine AK ?_
  cases hmid : p.mid with
  | false =>
   simp [go_sem, AF.flat, AC, Ai]
   exact fin p.head _ _ (by simp [U8, hmid])
  | true =>
   simp [go_sem, AF.flat]
   refine Y4 (by simpa [AF.enc, AF.flat] using c47g (g := 48) (a := []) (b := [.iptr [AA a]]) (p := fun y => y == a) p.head hp.1 hp.2 (fun y => c48 a y) r.id) ?_
   simp [go_sem, AF.enc, AF.flat, AC, Ai]
   exact fin (Ci (fun y => y == a) r.id p.head) _ _ (by simp [U8, hmid])
def K4 (x : AE) : Bool := (x.kind == 7 && (match x.rows with | [] => true | _ :: _ => false)) || (x.kind == 1 && x.text.size == 0)
theorem I7 (x : AE) : Bw x ↔ K4 x = true := by
 unfold Bw K4
 cases h : x.rows <;> simp []
def NH (out : List AE) (x : AE) : List AE :=
 if K4 x then out else match out.getLast? with
  | some y => if x.kind = 1 ∧ y.kind = 1 ∧ y.head = x.head then out.dropLast ++ [y.addText x.text] else out ++ [x]
  | none => out ++ [x]
theorem Qd : Ao = NH := by
 funext out x
 unfold Ao NH
 by_cases h : Bw x
 · rw [if_pos h, if_pos ((I7 x).1 h)]
 · rw [if_neg h, if_neg (fun e => h ((I7 x).2 e))]
   cases out.getLast? <;> rfl
theorem Hi (l : List AE) : AP l = (AE.nrmL l).foldl NH [] := by rw [AP, DK, Qd]
def Cm : Av := ⟨3, ⟨#[65, 110]⟩, 0⟩
def Cg : Av := ⟨4, ⟨#[65, 110]⟩, 0⟩
def z0 : AF := ⟨[], 0, 0, [], []⟩
def hI (i : Int) : AF := ⟨[], i, 0, [], []⟩
def K6 (i : Int) (t : ByteArray) : AE := .mk 1 0 0 t (hI i) [] []
def RD : AE := K6 3 ⟨#[97, 98, 99, 100]⟩
def M9 : AE := .mk 2 0 0 ⟨#[]⟩ z0 [] []
def Ew : AI := ⟨[], [], [], []⟩
def Cd : AH := ⟨[RD, M9], z0, [Cm], Ew⟩
def Ev : BD := ⟨0, 1, 3⟩
def Ln (i : Int) : List AE := [K6 3 ⟨#[97]⟩, K6 i ⟨#[98, 99]⟩, K6 3 ⟨#[100]⟩, M9]
theorem rsB (l : List AE) (a b : Int) (r : List AE) (h : ED l a b = 0) (hr : (AE.nrmL (BA (BA l b).1 a).2).foldl NH [] = r) : Ab l a b = (r, 0) := by
 rw [Ab, if_pos h, Hi, hr]
theorem rs1 : Ab [RD, M9] 0 1 = ([K6 3 ⟨#[97]⟩], 0) := rsB _ _ _ _ (by kernel_rfl) (by kernel_rfl)
theorem rs2 : Ab [RD, M9] 1 3 = ([K6 3 ⟨#[98, 99]⟩], 0) := rsB _ _ _ _ (by kernel_rfl) (by kernel_rfl)
theorem rs3 : Ab [RD, M9] 3 5 = ([K6 3 ⟨#[100]⟩, M9], 0) := rsB _ _ _ _ (by kernel_rfl) (by kernel_rfl)
theorem exLen : BI [RD, M9] = (5, 0) := by kernel_rfl
section
variable {σ : Type}
theorem wEx (f : σ → B6 → AF × Bool × σ) (revs : List Av) (s : σ) (r : List AE × σ) (h : ((Bi f (A6 f Ev 1) false [K6 3 ⟨#[97]⟩] s).1 ++ (Bi f (A6 f Ev 1) true [K6 3 ⟨#[98, 99]⟩] (Bi f (A6 f Ev 1) false [K6 3 ⟨#[97]⟩] s).2).1 ++ (Bi f (A6 f Ev 1) false [K6 3 ⟨#[100]⟩, M9] (Bi f (A6 f Ev 1) true [K6 3 ⟨#[98, 99]⟩] (Bi f (A6 f Ev 1) false [K6 3 ⟨#[97]⟩] s).2).2).1,
 (Bi f (A6 f Ev 1) false [K6 3 ⟨#[100]⟩, M9] (Bi f (A6 f Ev 1) true [K6 3 ⟨#[98, 99]⟩] (Bi f (A6 f Ev 1) false [K6 3 ⟨#[97]⟩] s).2).2).2) = r) :
 Bs f Ev 2 Cd revs s = (⟨r.1, (f r.2 ⟨z0, false, 1⟩).1, revs, Ew⟩, (f r.2 ⟨z0, false, 1⟩).2.2) := by
 have e : A6 f Ev 2 0 Cd.flow false s = r := by
  rw [← h]
  show A6 f Ev 2 0 [RD, M9] false s = _
  rw [A6, if_pos (by kernel_rfl), exLen]
  show (_, _) = _
  rw [show Ev.a = 1 from rfl, show Ev.b = 3 from rfl, rs1, rs2, rs3]
 rw [Bs, e]; rfl
end
theorem w1 : Bs (Dj (Gv 3)) Ev 2 Cd [Cm] (0, 0) = (⟨Ln 3, z0, [Cm], Ew⟩, (2, 2)) := by
 rw [wEx _ _ _ (Ln 3, (2, 2)) (by kernel_rfl)]; kernel_rfl
theorem w2 : Bs (Dj fun (s : Unit) _ => s) Ev 2 Cd [Cm] () = (⟨Ln 3, z0, [Cm], Ew⟩, ()) := by
 rw [wEx _ _ _ (Ln 3, ()) (by kernel_rfl)]; kernel_rfl
theorem w3 : Bs (U8 3 4) Ev 2 Cd [Cm, Cg] () = (⟨Ln 4, z0, [Cm, Cg], Ew⟩, ()) := by
 rw [wEx _ _ _ (Ln 4, ()) (by kernel_rfl)]; kernel_rfl
theorem nP3 : AP (Ln 3) = [RD, M9] := by rw [Hi]; kernel_rfl
theorem nP4 : AP (Ln 4) = Ln 4 := by rw [Hi]; kernel_rfl
theorem n3 : (⟨Ln 3, z0, [Cm], Ew⟩ : AH).normal = Cd := by
 rw [AH.normal, AH.norm1, nP3]; kernel_rfl
theorem s34 : Co [3, 4] = [3, 4] := by unfold Co; first | exact List.mergeSort_of_sorted (by simp) | exact List.mergeSort_of_pairwise (by simp) | simp [List.mergeSort]
theorem u34 : Fe ⟨Ln 4, z0, [Cm, Cg], Ew⟩ = [3, 4] := by
 rw [Fe, show ((Bb [] (AE.usL (Ln 4) ++ z0.all)).filter fun x => decide (x ≠ 0)) = [3, 4] by kernel_rfl, s34]
theorem n4 : (⟨Ln 4, z0, [Cm, Cg], Ew⟩ : AH).normal = ⟨Ln 4, z0, [Cm, Cg], Ew⟩ := by
 rw [AH.normal, AH.norm1, nP4, u34]; kernel_rfl
theorem exS1 : Eo 2 Cd 3 Ev = (2, 2, 0) := by
 rw [Eo, if_neg (of_decide_eq_false (by kernel_rfl)), if_neg (of_decide_eq_false (by kernel_rfl)), if_neg (of_decide_eq_false (by kernel_rfl))]
 rw [show Cd.revs = [Cm] from rfl, w1]
def UU (h : AF) : Prop := h = z0 ∨ h = hI 3
theorem Fs {h : AF} (e : UU h) : h.sized := by
 rcases e with rfl | rfl <;> exact ⟨by simp [z0, hI], by simp [z0, hI], by simp [z0, hI]⟩
theorem N3 {h : AF} (e : UU h) : Q6 h := by
 rcases e with rfl | rfl <;> exact ⟨rfl, rfl, rfl⟩
theorem Rf {h : AF} (e : UU h) : h.revs.length ≤ 1048576 := by
 rcases e with rfl | rfl <;> exact of_decide_eq_true (by kernel_rfl)
theorem Rg : Ex UU 10 2 Cd.flow := by
 refine ⟨of_decide_eq_true (by kernel_rfl), of_decide_eq_true (by kernel_rfl), fun x hx => ?_⟩
 have : x = RD ∨ x = M9 := by simpa [Cd] using hx
 rcases this with rfl | rfl
 · exact ⟨.inr rfl, ⟨by simp [RD, K6, AE.flow], of_decide_eq_true (by kernel_rfl), by simp [RD, K6, AE.flow]⟩, by simp [RD, K6, AE.rows], by simp [RD, K6, AE.rows]⟩
 · exact ⟨.inl rfl, ⟨by simp [M9, AE.flow], of_decide_eq_true (by kernel_rfl), by simp [M9, AE.flow]⟩, by simp [M9, AE.rows], by simp [M9, AE.rows]⟩
theorem H0 (i : Int) (t : ByteArray) (ht : t.size ≤ 10) : (K6 i t).sized := by
 simp [K6, AE.sized, AE.sizedL, AR.sizedL]
 exact ⟨by omega, by simp [hI], by simp [hI], by simp [hI]⟩
theorem MG : M9.sized := by
 simp [M9, AE.sized, AE.sizedL, AR.sizedL]
 exact ⟨of_decide_eq_true (by kernel_rfl), by simp [z0], by simp [z0], by simp [z0]⟩
theorem LW : Ew.sized := ⟨by simp [Ew], by simp [Ew], by simp [Ew], by simp [Ew], by simp [Ew], by simp [Ew]⟩
theorem Oy : z0.sized := Fs (.inl rfl)
theorem Hz (i : Int) (revs : List Av) (h : revs.length ≤ 10) : (⟨Ln i, z0, revs, Ew⟩ : AH).sized :=
 ⟨by simp [Ln], by simp only [Ln, AE.sizedL]; exact ⟨H0 _ _ (of_decide_eq_true (by kernel_rfl)), H0 _ _ (of_decide_eq_true (by kernel_rfl)), H0 _ _ (of_decide_eq_true (by kernel_rfl)), MG, trivial⟩, Oy, by show revs.length ≤ _; omega, LW⟩
theorem GP : Cd.sized :=
 ⟨by simp [Cd], by simp only [Cd, AE.sizedL]; exact ⟨H0 _ _ (of_decide_eq_true (by kernel_rfl)), MG, trivial⟩, Oy, by simp [Cd], LW⟩
theorem PG {d : AH} (hl : d.flow.length ≤ 1048576) (hs : AE.sizedL d.flow) {id : Int} {fl : Fl} (e : Dp d id = some fl) : fl.items.length ≤ 1048576 ∧ ∀ x ∈ fl.items, x.text.size ≤ 1048576 := by
 have o := LA hl hs fl (List.mem_of_find?_eq_some e)
 exact ⟨o.1, ZC o.2⟩
theorem k13 : PC 13 [Cd.enc, AA 3, Ev.enc] (.tup [AA 2, AA 2, AA 0]) := by
 have hr : Cd.revs = [Cm] := rfl
 have := c13 UU 10 (by omega) (fun h e => ⟨⟨Fs e, Rf e⟩, Fs e⟩) 2 Cd 3 Ev Rg (.inl rfl) (by simp [Cd]) (fun fl hfl => ?_) ?_ ?_ ?_
 · rw [exS1] at this; exact this
 · exact PG GP.len GP.flow hfl
 · rw [hr, w1]; exact Hz _ _ (by simp)
 · rw [hr, w1, n3]; exact GP
 · rw [hr, w1, nP3]; exact of_decide_eq_true (by kernel_rfl)
theorem k42 : PC 42 [Cg.enc] (AA 0) := by
 have := UM Cg
 rwa [show CN Cg = 0 by kernel_rfl] at this
theorem k20 : PC 20 [Aj [Cm], AA 4] (.tup [GK.enc, .bool false]) := by
 have := S5 [Cm] (by simp) 4
 have e : BG [Cm] 4 = (GK, false) := by kernel_rfl
 rw [e] at this; exact this
theorem k45 : PC 45 [Aj [Cm], Cg.enc] (.tup [Aj [Cm, Cg], AA 0]) := c45g [Cm] (by simp) (by simp) Cg (by kernel_rfl) (by kernel_rfl) 1 (by simp) (by kernel_rfl)
theorem k36 {n0 t : Nat} {H : Hp} {n : Nat} (hn : n0 ≤ n) : BN Tryz.prog 36 [Cd.enc, Ev.enc, .fn (.func 43) [] [.ptr t 0]] H n (fun v h' n' => v = .tup [] ∧ h' = H ∧ n' = n) := by
 have hr : Cd.revs = [Cm] := rfl
 have := d36 (sc := Ev) (v43 n0 t) UU 10 (by omega) (fun h e => ⟨N3 e, Fs e⟩) 2 Cd () Rg (.inl rfl) ?_ ?_ ?_ (H := H) hn (by rintro o y ⟨⟩)
 · rw [Tg] at this; exact this
 · rw [hr, w2]; exact Hz _ _ (by simp)
 · rw [hr, w2, n3]; exact GP
 · rw [hr, w2, nP3]; exact of_decide_eq_true (by kernel_rfl)
theorem k49 {n0 : Nat} {H : Hp} {n : Nat} (hn : n0 ≤ n) : BN Tryz.prog 49 [.fn (.func 46) [] [.iptr [AA 4, .str ⟨#[65, 110]⟩, AA 0], .iptr [AA 3]], Cd.enc, Ev.enc, Aj [Cm, Cg]] H n (fun v h' n' => v = (⟨Ln 4, z0, [Cm, Cg], Ew⟩ : AH).enc ∧ h' = H ∧ n' = n) := by
 have := d49 (sc := Ev) (v46g n0 Cg 3) UU 10 (by omega) (fun h e => ⟨⟨Fs e, by rw [(N3 e).dels]; simp⟩, Fs e⟩) 2 Cd [Cm, Cg] () Rg (.inl rfl) ?_ ?_ ?_ (H := H) hn (by rintro o y ⟨⟩)
 · rw [Tg, show Cg.id = 4 from rfl, w3, n4] at this; exact this
 · rw [show Cg.id = 4 from rfl, w3]; exact Hz _ _ (by simp)
 · rw [show Cg.id = 4 from rfl, w3, n4]; exact Hz _ _ (by simp)
 · rw [show Cg.id = 4 from rfl, w3, nP4]; exact of_decide_eq_true (by kernel_rfl)
set_option maxHeartbeats 4000000 in
theorem k15 : PC 15 [Cd.enc, AA 3, Ev.enc, Cg.enc] (.tup [(⟨Ln 4, z0, [Cm, Cg], Ew⟩ : AH).enc, AA 0]) := by
 intro h n
 refine Da Tryz.func15 rfl fun ho => ?_
 have hHb := ho.lt
 obtain ⟨X, hX⟩ : ∃ X : SV, X = .iptr ([AG Cd.flow] ++ Cd.«end».flat ++ [Aj Cd.revs] ++ Cd.settings.flat) := ⟨_, rfl⟩
 obtain ⟨S, hS⟩ : ∃ S : SV, S = .iptr [AA Ev.id, AA Ev.a, AA Ev.b] := ⟨_, rfl⟩
 obtain ⟨V, hV⟩ : ∃ V : SV, V = .iptr [AA Cg.id, .str Cg.author, AA Cg.time] := ⟨_, rfl⟩
 obtain ⟨G, hG⟩ : ∃ G : Hp, G = hset h (n + 4) (some (.cells EG)) := ⟨_, rfl⟩
 have hGb : ∀ j y, G j = some y → j < n + 5 := fun j y e => by
  rw [hG] at e; simp only [hset] at e; split at e
  · omega
  · have := hHb j y e; omega
 have hGk : ∀ j y, h j = some y → G j = some y := fun j y e => by rw [hG]; exact AJ (fun j z e => by have := hHb j z e; omega) AB j y e
 have hGa : G (n + 4) = some (.cells EG) := by rw [hG, AC]
 refine Bn 1 [(4, X), (5, .iptr [AA 3]), (6, S), (7, V), (8, .ptr (n + 4) 0)] G (fun m => n + 5 ≤ m) ?_ (fun m hm => ?_)
 · rw [hX, hS, hV, hG]
   simp [go_sem, BD.enc, AH.enc, AF.flat, AI.flat, Av.enc, Jo, Y6, EG]
   refine ⟨⟨AW (by simp [hset]; exact ho.none (by omega)) (by simp [hset]), AW (by simp [hset]; exact ho.none (by omega)) (by simp [hset]), AW (by simp [hset]; exact ho.none (by omega)) (by simp [hset]), AW (by simp [hset]; exact ho.none (by omega)) (by simp [hset])⟩, fun j y => ?_⟩
   have := hHb j y; simp only [hset]; grind
 have hcl : ∀ E : AH, closed n (.tup [E.enc, AA 0]) = true := fun E => by simp [AH.enc, AF.flat, AI.flat, closed, closedL, AE.E.closedL, Eu.E.closedL, BS.E.closedL, Az.E.closedL, Av.E.closedL, A7.E.closedL, FL.E.closedL, Aw.E.closedL, FX.E.closedL]
 refine Bn 0 [(4, X), (5, .iptr [AA 3]), (6, S), (7, V), (8, .ptr (n + 4) 0), (10, AA 2), (11, AA 2), (12, AA 0)] G (fun m => n + 5 ≤ m) ?_ (fun m hm => ?_)
 · rw [hX, hS]
   simp [go_sem, AF.flat, AI.flat]
   refine Y4 (by simpa [BD.enc, AH.enc, AF.flat, AI.flat] using k13) ?_
   simp [go_sem, Jo, hm]
 refine CD 0 [(4, X), (5, .iptr [AA 3]), (6, S), (7, V), (8, .ptr (n + 4) 0), (10, AA 2), (11, AA 2)] G (fun m => n + 5 ≤ m) (AK ?_) (fun m hm => ?_)
 · simp [go_sem, Jo, hm]
 refine CD 0 [(4, X), (5, .iptr [AA 3]), (6, S), (7, V), (8, .ptr (n + 4) 0), (10, AA 2), (11, AA 2)] G (fun m => n + 5 ≤ m) (AK ?_) (fun m hm => ?_)
 · rw [hV]
   simp [go_sem]
   refine Y4 (by simpa [Av.enc] using k42) ?_
   simp [go_sem, Jo, hm]
 refine CD 0 [(4, X), (5, .iptr [AA 3]), (6, S), (7, V), (8, .ptr (n + 4) 0), (10, AA 2), (11, AA 2)] G (fun m => n + 5 ≤ m) (AK ?_) (fun m hm => ?_)
 · rw [hX, hV]
   simp [go_sem, AF.flat, AI.flat]
   refine Y4 (by simpa [Cg, Cd] using k20) ?_
   simp [go_sem, Jo, Av.enc, AC, Ai]
   exact ⟨by omega, AJ (fun j z e => by have := hGb j z e; omega) AB⟩
 refine CD 0 [(4, X), (5, .iptr [AA 3]), (6, S), (7, V), (8, .ptr (n + 4) 0)] G (fun m => n + 5 ≤ m) (AK ?_) (fun m hm => ?_)
 · rw [hX]
   simp [go_sem, AF.flat, AI.flat, Jo, hm, Cd]
 refine BO 0 (α := Nat) (fun k => [(4, X), (5, .iptr [AA 3]), (6, S), (7, V), (8, .ptr (n + 4) 0), (16, .ptr (k + 1) 0)]) (fun k => hset (hset G k (some (.map []))) (k + 1) (some (.cells [.map k]))) (fun k m => n + 5 ≤ k ∧ k + 1 < m) ?_ (fun k m hm => ?_)
 · simp [go_sem, Jo, Ai, AC]
   exact ⟨m, ⟨by omega, by omega⟩, rfl, AB⟩
 obtain ⟨hk1, hk2⟩ := hm
 refine Bn 0 [(4, X), (5, .iptr [AA 3]), (6, S), (7, V), (8, .ptr (n + 4) 0), (16, .ptr (k + 1) 0)] (hset (hset G k (some (.map []))) (k + 1) (some (.cells [.map k]))) (fun m => k + 1 < m) ?_ (fun m hm => ?_)
 · rw [hX, hS]
   simp [go_sem, AF.flat, AI.flat]
   refine Y9 (by simpa [BD.enc, AH.enc, AF.flat, AI.flat] using k36 (n0 := 0) (K2 _)) ?_
   rintro v H' n' ⟨rfl, rfl, rfl⟩
   simp [go_sem, Jo, hk2]
 refine CD 0 [(4, X), (5, .iptr [AA 3]), (6, S), (7, V), (8, .ptr (n + 4) 0)] G (fun m => n + 5 ≤ m) (AK ?_) (fun m hm => ?_)
 · simp [go_sem, AC]
   refine Mh (m := k) (es := []) rfl (by simp [go_sem]) (by simp [go_sem]) (by simp [hset]) ?_
   simp [go_sem]
   refine Aq 0 (α := Unit) (fun _ => [(69, .ptr m 0), (4, X), (5, .iptr [AA 3]), (6, S), (7, V), (8, .ptr (n + 4) 0)]) (fun _ => hset G m (some (.iter [] none))) (fun _ m2 => m < m2) (fun _ => 0) () (Yk m) ?_ ?_ ?_
   · simp [Am, Jo]
   · intro o y e
     simp only [hset] at e ⊢
     by_cases e1 : o = m
     · rw [if_pos e1] at e ⊢; exact e
     · rw [if_neg e1] at e ⊢
       have := hGb o y e
       rw [if_neg (by omega), if_neg (by omega), if_neg (by omega)]; exact e
   rintro _ m2 hm2
   simp [go_sem]
   refine Og (q := m) (left := []) (last := none) rfl (by simp [go_sem]) (AC _ _ _) (fun i hi => absurd hi (by simp)) fun _ => ?_
   simp [go_sem, Jo]
   exact ⟨by omega, AJ (fun j z e => by have := hGb j z e; omega) AB⟩
 refine Bn 0 [(4, X), (5, .iptr [AA 3]), (6, S), (7, V), (8, .ptr (n + 4) 0), (19, Aj [Cm, Cg]), (12, AA 0)] G (fun m => n + 5 ≤ m) ?_ (fun m hm => ?_)
 · rw [hX, hV]
   simp [go_sem, AF.flat, AI.flat]
   refine Y4 (by simpa [Av.enc, Cd] using k45) ?_
   simp [go_sem, Jo, hm]
 refine CD 0 [(4, X), (5, .iptr [AA 3]), (6, S), (7, V), (8, .ptr (n + 4) 0), (19, Aj [Cm, Cg])] G (fun m => n + 5 ≤ m) (AK ?_) (fun m hm => ?_)
 · simp [go_sem, Jo, hm]
 refine Bn 0 [(4, X), (6, S), (8, .ptr (n + 4) 0), (19, Aj [Cm, Cg]), (20, .fn (.func 46) [] [V, .iptr [AA 3]])] G (fun m => n + 5 ≤ m) ?_ (fun m hm => ?_)
 · simp [go_sem, Jo, hm]
 refine AK ?_
 rw [hX, hS, hV]
 simp [go_sem, AF.flat, AI.flat]
 refine Y9 (by simpa [BD.enc, AH.enc, AF.flat, AI.flat, Cg] using k49 (n0 := 0) (K2 _)) ?_
 rintro v H' n' ⟨rfl, rfl, rfl⟩
 simp [go_sem, hGa, EG, AH.enc, AF.flat, AI.flat, AC]
 exact Ax ho (AJ (fun j z e => by have := hHb j z e; omega) hGk) rfl (hcl ⟨Ln 4, z0, [Cm, Cg], Ew⟩)
end Go.Proofs.YtgakninlhfkkmaaGreat.Sh
