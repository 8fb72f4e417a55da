/- A part of the proof (part 12 of 13). -/
import Derived.Test.YthinbkgpjmjfeaaGreatDoorN11
namespace Go.Proofs.YthinbkgpjmjfeaaGreatDoor.Sh
open Proofs
set_option maxRecDepth 10000
theorem txt_size (x : Item) : (txt x).size ≤ x.text.size + 3 := by
  unfold txt
  split
  · omega
  · have := (chr_valid x).2; omega
theorem textB_len : ∀ l : List Item, (textB l).length ≤ textsL l + 3 * l.length
  | [] => by simp [textB]
  | x :: l => by
    have ih := textB_len l
    have h1 := txt_size x
    have h2 : (txt x).data.toList.length = (txt x).size := by rw [Array.length_toList]; rfl
    have e1 : textB (x :: l) = (txt x).data.toList ++ textB l := by simp [textB]
    have e2 : textsL (x :: l) = x.text.size + textsL l := by simp [textsL]
    rw [e1, e2, List.length_append, List.length_cons]; omega
theorem w46 : PC 46 [] (.agg [.fn (.func 113) [] [], .fn (.func 114) [] [], .fn (.func 115) [] []]) := by
  intro h n
  refine go Tryz.func46 rfl (by kernel_rfl) (by kernel_rfl) (by simp [go_sem]) fun ho => ?_
  simp [go_sem, hset_at, hset_two]
  exact retIs ho (hset_old ho (Nat.le_refl _) look_same) rfl rfl
theorem w113 (id : Int) (l : List Item) : PC 113 [intE id, itemsE l] (itemsE l) := by
  intro h n
  refine go Tryz.func113 rfl (by kernel_rfl) (by kernel_rfl) (by simp [go_sem]) fun ho => ?_
  simp [go_sem]
  exact retIs ho look_same rfl (Item.E.imm _ _ _ _)
theorem w114 (x : Head) : PC 114 [x.enc] x.enc := by
  intro h n
  refine go Tryz.func114 rfl (by kernel_rfl) (by kernel_rfl) (by simp [go_sem]) fun ho => ?_
  simp [go_sem, Head.enc, Head.flat, hset_at, hset_two, hset_ne]
  exact retIs ho (fun j y => by have := ho j y; simp only [hset]; grind) (by simp []) (Head.E.cl n x)
def hasS (s t : ByteArray) : Bool := decide (0 ≤ idx t s)
theorem w120 (t s : ByteArray) (ht : t.size < 4294967281) : GC 120 [.str t, .str s] (intE (idx t s)) := by
  intro E hI h n
  refine go Tryz.func120 rfl (by kernel_rfl) (by kernel_rfl) (by simp [go_sem]) fun ho => ?_
  simp [go_sem]
  refine (g160 t s ht).use hI ?_
  simp [go_sem]
  exact ret0 ho rfl rfl
theorem w59 (t s : ByteArray) (ht : t.size < 4294967281) : GC 59 [.str t, .str s] (.bool (hasS s t)) := by
  intro E hI h n
  refine go Tryz.func59 rfl (by kernel_rfl) (by kernel_rfl) (by simp [go_sem]) fun ho => ?_
  simp [go_sem]
  refine (w120 t s ht).use hI ?_
  simp [go_sem]
  exact ret0 ho rfl (by simp [hasS])
theorem w58 (t s : ByteArray) (ht : t.size < 4294967281) : GC 58 [.str t, .iptr [.str s]] (.bool (hasS s t)) := by
  intro E hI h n
  refine go Tryz.func58 rfl (by kernel_rfl) (by kernel_rfl) (by simp [go_sem]) fun ho => ?_
  simp [go_sem]
  refine (w59 t s ht).use hI ?_
  simp [go_sem]
  exact ret0 ho rfl rfl
def fstS (s : ByteArray) (l : List ByteArray) : Int := match l.findIdx? (hasS s) with | some i => i | none => -1
theorem w119 (l : List ByteArray) (s : ByteArray) (hl : l.length ≤ 1073741824) (ht : ∀ t ∈ l, t.size < 4294967281) : GC 119 [.imm 1 (l.map .str) false, .fn (.func 58) [] [.iptr [.str s]]] (intE (fstS s l)) := by
  intro E hI h n
  refine go Tryz.func119 rfl (by kernel_rfl) (by kernel_rfl) (by simp [go_sem]) fun ho => ?_
  simp [go_sem]
  refine goloop 0 (α := Nat) (fun k => [(0, .imm 1 (l.map .str) false), (1, .fn (.func 58) [] [.iptr [.str s]]), (7, intE l.length), (8, intE k)]) (fun _ => h) (fun k m => k ≤ l.length ∧ n ≤ m ∧ ∀ i (hi : i < l.length), i < k → hasS s l[i] = false) (fun k => l.length - k) 0 ⟨Nat.zero_le _, Nat.le_refl _, fun i _ h => by omega⟩ ?_ look_same ?_
  · simp [look, Fz.same]
  rintro k m ⟨hk, hm, hno⟩
  by_cases hlt : k < l.length
  · have w1 : IntKind.i64.wrap ((k : Int) + 1) = ((k + 1 : Nat) : Int) := by rw [wr64] <;> omega
    obtain ⟨t, hx⟩ : ∃ t, l[k] = t := ⟨_, rfl⟩
    simp [go_sem, hlt, hx]
    refine (w58 t s (ht t (hx ▸ List.getElem_mem hlt))).use hI ?_
    cases hb : hasS s t with
    | true =>
      simp [go_sem]
      have : fstS s l = k := by
        unfold fstS
        rw [List.findIdx?_eq_some_iff_getElem.2 ⟨hlt, by rw [hx]; exact hb, fun j hj => by rw [hno j (by omega) hj]; simp⟩]
      rw [this]
      exact ret0 ho rfl rfl
    | false =>
      simp [go_sem, w1, -Int.natCast_add]
      exact ⟨k + 1, by omega, ⟨by omega, hm, fun i hi h => by
        by_cases e : i = k
        · subst e; rw [hx]; exact hb
        · exact hno i hi (by omega)⟩, rfl⟩
  · have : fstS s l = -1 := by
      unfold fstS
      rw [List.findIdx?_eq_none_iff.2 fun x hx => by
        obtain ⟨i, hi, rfl⟩ := List.mem_iff_getElem.1 hx
        exact hno i hi (by omega)]
    simp [go_sem, hlt]
    rw [this]
    exact ret0 ho rfl rfl
theorem w57 (l : List ByteArray) (s : ByteArray) (hl : l.length ≤ 1073741824) (ht : ∀ t ∈ l, t.size < 4294967281) : GC 57 [.imm 1 (l.map .str) false, .fn (.func 58) [] [.iptr [.str s]]] (.bool (l.any (hasS s))) := by
  intro E hI h n
  refine go Tryz.func57 rfl (by kernel_rfl) (by kernel_rfl) (by simp [go_sem]) fun ho => ?_
  simp [go_sem]
  refine (w119 l s hl ht).use hI ?_
  have he : (0 ≤ fstS s l) ↔ l.any (hasS s) = true := by
    unfold fstS
    cases hf : l.findIdx? (hasS s) with
    | some i =>
      obtain ⟨h1, h2, _⟩ := List.findIdx?_eq_some_iff_getElem.1 hf
      simp only [List.any_eq_true]
      exact ⟨fun _ => ⟨_, List.getElem_mem h1, h2⟩, fun _ => by simp⟩
    | none =>
      have := List.findIdx?_eq_none_iff.1 hf
      simp only [List.any_eq_true]
      exact ⟨fun h => by simp at h, fun ⟨x, h1, h2⟩ => by rw [this x h1] at h2; cases h2⟩
  simp [go_sem]
  exact ret0 ho rfl (by rw [SV.bool.injEq, Bool.eq_iff_iff, decide_eq_true_eq, he])
theorem gatC {p n0 K : Nat} (hp : p < n0) (hK : K ≤ 1048576) : RwC (stS p) n0 55 114 56 [.ptr p 0] [] [.ptr p 0] gatR (lim Head.sized K) (limI Head.sized K) (fun _ => True) List.length 1073741823 where
  up := ⟨fun _ _ s => by simp [gatR], fun _ s => Nat.le_refl _, fun x s => by simp only [gatR]; split <;> simp⟩
  lt s o h := by simp only [stS]; rw [if_neg (by omega)]
  dom s s' o h := by simp only [stS] at h ⊢; split at h <;> simp_all
  cl s o y h := stS_cl p n0 s o y h
  zero l h := h
  flow N id l s H n hl ht hn hs := by
    obtain ⟨h1, h2, _⟩ := lim_iff.1 hl
    have := textB_len l
    exact w55 hp id l (by omega) (by omega) s (by simp [gatR] at ht; omega) hn hs
  head x s H n _ _ hn hs := by
    refine SCallE.mono (w114 x H n) ?_
    rintro v h' n' ⟨rfl, rfl, rfl⟩
    exact ⟨rfl, (upS_self s _ hs).symm, rfl⟩
  item N x s H n _ ht hn hs := by
    have hl : s.length ≤ 1073741823 := by
      simp only [gatR] at ht
      split at ht
      · rw [List.length_append] at ht; omega
      · exact ht
    exact w56 hp x s (by omega) hn hs
  flow_ok N id l s hl := ⟨by have := (lim_iff.1 hl).1; simp only [gatR]; omega, (lim_iff.1 hl).2.2⟩
  item_ok N x s hx _ := ⟨trivial, fun _ => hx.2.1, fun _ => ⟨by have := hx.2.2.1; simp only [gatR]; omega, fun r hr => ⟨trivial, by have := (hx.2.2.2 r hr).2.1; omega, fun c hc => ⟨trivial, ((hx.2.2.2 r hr).2.2 c hc).2⟩⟩⟩⟩
theorem appLg {P : Program} {H : Hp} {n m k z : Nat} {es xs : List SV} {o : Option Nat} {t t2 el : TypeId} (ht : tslice P t = some el) (ht2 : (tslice P t2).isSome = true) (hz : tsz P el = z) (hz0 : z ≠ 0) (hst : (tzero P el).storable = true) (hzl : (tzero P el).cells.length = z)
    (hb : tbytes P el ≤ 65536) (hx : xs ≠ []) (hroom : es.length + xs.length ≤ 1073741824) (hA : AccI n m z o es) (hs : ∀ e ∈ xs, e.storable = true ∧ e.cells.length = z) (h1 : H k = some (.cells (xs.flatMap SV.cells))) (h2 : ∀ j, o = some j → H j = some (.cells (es.flatMap SV.cells))) (p : Nat) (hrow : rowT el = none := by rfl) :
    builtinS P H p .append [t, t2] [AccV z o es, .sl k 0 z xs.length true] =
      some { val := .sl p 0 z (es.length + xs.length) false, upd := o.map fun j => (j, none), new := some (.cells (es.flatMap SV.cells ++ xs.flatMap SV.cells)) } := by
  have hxl : xs.length ≠ 0 := by cases xs <;> simp at hx ⊢
  have hfl : flat H (.sl k 0 z xs.length true) = some (xs.flatMap SV.cells) := by
    simp only [flat, h1, takeN, Nat.zero_add, flat_len hs, Nat.le_refl, if_true, List.drop_zero]
    rw [← flat_len hs, List.take_length]
  have hr : roomy (es.length + xs.length) (tbytes P el) = true := by simp [roomy]; exact ⟨by omega, hb⟩
  simp only [builtinS, ht2, if_true, appendS, ht, lenS, hfl, hz, hzl, hst]
  cases o with
  | none =>
    have := hA.none rfl
    subst this
    have hr' : roomy xs.length (tbytes P el) = true := by simpa using hr
    simp [AccV, zOk, hz0, hrow, hxl, hr']
  | some j =>
    have hf : flat H (.sl j 0 z es.length false) = some (es.flatMap SV.cells) := by
      simp only [flat, h2 j rfl, takeN, Nat.zero_add, flat_len hA.size, Nat.le_refl, if_true, List.drop_zero]
      rw [← flat_len hA.size, List.take_length]
    simp [AccV, zOk, hz0, hf, hr, tyApp_none hrow, hxl]
theorem app_out {X h : Hp} {n m k p z : Nat} {es xs : List SV} {o : Option Nat} {t t2 el : TypeId} (ht : tslice Tryz.prog t = some el) (ht2 : (tslice Tryz.prog t2).isSome = true) (hz : tsz Tryz.prog el = z) (hz0 : z ≠ 0) (hst : (tzero Tryz.prog el).storable = true) (hzl : (tzero Tryz.prog el).cells.length = z)
    (hb : tbytes Tryz.prog el ≤ 65536) (hx : xs ≠ []) (hroom : es.length + xs.length ≤ 1073741824) (hA : AccI n m z o es) (hs : ∀ e ∈ xs, e.storable = true ∧ e.cells.length = z) (h1 : X k = some (.cells (xs.flatMap SV.cells))) (hX : ∀ j y, AccH o es h j = some y → X j = some y) (hh : ∀ j y, h j = some y → j < n) (hnp : n ≤ p) (hmp : m ≤ p) (hrow : rowT el = none := by rfl) :
    ∃ out, builtinS Tryz.prog X p .append [t, t2] [AccV z o es, .sl k 0 z xs.length true] = some out ∧ out.val = .sl p 0 z (es.length + xs.length) false ∧ out.new.isSome = true ∧ AccI n (p + 1) z (some p) (es ++ xs) ∧ (∀ j y, AccH (some p) (es ++ xs) h j = some y → Out.app X p out j = some y) ∧ (∀ j, j ≠ p → o ≠ some j → Out.app X p out j = X j) := by
  have hX2 : ∀ j y, h j = some y → X j = some y := fun j y e => hX j y (acc_old hh hA j y e)
  have hoff : ∀ (j : Nat), j ≠ p → o ≠ some j → Out.app X p { val := .sl p 0 z (es.length + xs.length) false, upd := o.map fun j => (j, none), new := some (.cells (es.flatMap SV.cells ++ xs.flatMap SV.cells)) } j = X j := fun j h1 h2 => by
    cases o with
    | none => simp [Out.app, hset_ne _ _ h1]
    | some q =>
      have h3 : j ≠ q := fun e => h2 (by rw [e])
      simp [Out.app, hset_ne _ _ h1, hset_ne _ _ h3]
  refine ⟨_, appLg ht ht2 hz hz0 hst hzl hb hx hroom hA hs h1 (fun j e => hX j _ (acc_at j e)) p hrow, rfl, rfl, ⟨by simp, fun j e => by cases e; omega, fun e he => (List.mem_append.1 he).elim (hA.size e) (hs e)⟩, fun j y e => ?_, hoff⟩
  simp only [AccH] at e
  by_cases e1 : j = p
  · subst e1
    rw [hset_at] at e
    simp only [Out.app, hset_at]
    rw [← e, List.flatMap_append]
  · rw [hset_ne _ _ e1] at e
    have hlt := hh j y e
    rw [hoff j e1 (fun g => by have := (hA.lt j g).1; omega)]
    exact hX2 j y e
abbrev cellH (p : Nat) (o : Option Nat) (es : List SV) (h : Hp) : Hp := AccH o es (hset h p (some (.cells [AccV 1 o es])))
theorem cellH_at {p n m : Nat} {o : Option Nat} {es : List SV} {h : Hp} (hA : AccI n m 1 o es) (hp : p < n) : cellH p o es h p = some (.cells [AccV 1 o es]) := by
  cases o with
  | none => exact hset_at _ _ _
  | some j => have := (hA.lt j rfl).1; simp only [cellH, AccH]; rw [hset_ne _ _ (by omega)]; exact hset_at _ _ _
theorem cellH_lt {p n m : Nat} {o : Option Nat} {es : List SV} {h : Hp} (hb : ∀ j y, h j = some y → j < n) (hA : AccI n m 1 o es) (hp : p < n) (hm : n ≤ m) : ∀ j y, cellH p o es h j = some y → j < m :=
  acc_lt (fun j y e => by
    by_cases e1 : j = p
    · omega
    · rw [hset_ne _ _ e1] at e; exact hb j y e) hm hA
theorem cell_push {p n m k : Nat} {o : Option Nat} {es : List SV} {h : Hp} (hb : ∀ j y, h j = some y → j < n) (hA : AccI n m 1 o es) (hp : p < n) (hnm : n ≤ m) (hmk : m ≤ k) (xs : List ByteArray) (hx : xs ≠ []) (hroom : es.length + xs.length ≤ 1073741824) :
    ∃ out, builtinS Tryz.prog (hset (cellH p o es h) k (some (.cells (xs.map SV.str)))) (k + 1) .append [40, 40] [AccV 1 o es, .sl k 0 1 xs.length true] = some out ∧ out.val = .sl (k + 1) 0 1 (es.length + xs.length) false ∧ out.new.isSome = true ∧ AccI n (k + 1 + 1) 1 (some (k + 1)) (es ++ xs.map SV.str) ∧
      Out.app (hset (cellH p o es h) k (some (.cells (xs.map SV.str)))) (k + 1) out p = some (.cells [AccV 1 o es]) ∧
      ∀ j y, cellH p (some (k + 1)) (es ++ xs.map SV.str) h j = some y → hset (Out.app (hset (cellH p o es h) k (some (.cells (xs.map SV.str)))) (k + 1) out) p (some (.cells [.sl (k + 1) 0 1 (es.length + xs.length) false])) j = some y := by
  have hfl : ∀ l : List ByteArray, (l.map SV.str).flatMap SV.cells = l.map SV.str := fun l => by
    induction l with
    | nil => rfl
    | cons a l ih => rw [List.map_cons, List.flatMap_cons, ih]; rfl
  have hGb : ∀ j y, hset h p (some (.cells [AccV 1 o es])) j = some y → j < n := fun j y e => by
    by_cases e1 : j = p
    · omega
    · rw [hset_ne _ _ e1] at e; exact hb j y e
  obtain ⟨out, o1, o2, o3, o4, o5, o6⟩ := app_out (X := hset (cellH p o es h) k (some (.cells (xs.map SV.str)))) (h := hset h p (some (.cells [AccV 1 o es]))) (k := k) (p := k + 1) (t := 40) (t2 := 40) (el := 9) (z := 1) (xs := xs.map SV.str) (by simp [go_sem]) (by simp [go_sem]) (by simp [go_sem]) (by simp) (by simp [go_sem]) (by simp [go_sem]) (by simp [go_sem]) (by simpa using hx) (by simpa using hroom) hA (strEnc.size _) (by rw [hset_at, hfl])
    (fun j w g => by rw [hset_ne _ _ (by have := acc_lt hGb hnm hA j w g; omega)]; exact g) hGb (by omega) (by omega)
  rw [List.length_map] at o1 o2
  refine ⟨out, o1, o2, o3, o4, ?_, ?_⟩
  · rw [o6 p (by omega) (fun g => by have := (hA.lt p g).1; omega), hset_ne _ _ (by omega)]; exact cellH_at hA hp
  · have hvv : AccV 1 (some (k + 1)) (es ++ xs.map SV.str) = .sl (k + 1) 0 1 (es.length + xs.length) false := by simp [AccV]
    have := acc_box (bn := some (.cells [AccV 1 (some (k + 1)) (es ++ xs.map SV.str)])) (show k + 1 ≠ p by omega) o5
    rw [hvv] at this
    simp only [cellH, hvv]
    exact this
def gatL (N : Nat) (d : Document) : List ByteArray := (rwDoc gatR N d []).2
def revT (r : Rev) : List ByteArray := [r.author]
def comT (c : Comment) : List ByteArray := [c.author, c.text]
def styT (x : Style) : List ByteArray := [x.name]
def levT (x : Level) : List ByteArray := [x.template]
def lstT (x : Lst) : List ByteArray := x.levels.flatMap levT
def varT (x : Var) : List ByteArray := [x.name, x.value]
def gat1 (N : Nat) (d : Document) : List ByteArray := gatL N d ++ d.revs.flatMap revT
def gat2 (N : Nat) (d : Document) : List ByteArray := gat1 N d ++ d.settings.comments.flatMap comT
def gat3 (N : Nat) (d : Document) : List ByteArray := gat2 N d ++ d.settings.styles.flatMap styT
def gat4 (N : Nat) (d : Document) : List ByteArray := gat3 N d ++ d.settings.lists.flatMap lstT
def gat5 (N : Nat) (d : Document) : List ByteArray := gat4 N d ++ d.settings.vars.flatMap varT
theorem take_flat {α β : Type} (f : α → List β) {l : List α} {k : Nat} {x : α} (h : k < l.length) (hx : l[k] = x) : (l.take (k + 1)).flatMap f = (l.take k).flatMap f ++ f x := by
  rw [List.take_succ_eq_append_getElem h, hx, List.flatMap_append]; simp
theorem take_flat_le {α β : Type} (f : α → List β) (l : List α) (k : Nat) : ((l.take k).flatMap f).length ≤ (l.flatMap f).length := by
  have : l.flatMap f = (l.take k).flatMap f ++ (l.drop k).flatMap f := by rw [← List.flatMap_append, List.take_append_drop]
  rw [this, List.length_append]; omega
set_option maxHeartbeats 32000000 in
theorem w20 (d : Document) (s : ByteArray) {K N : Nat} (hK : K ≤ 1048576) (hd : d.sized) (hl : lim Head.sized K N d.flow)
    (hrv : d.revs.length ≤ 1048576) (hcm : d.settings.comments.length ≤ 1048576) (hsy : d.settings.styles.length ≤ 1048576) (hls : d.settings.lists.length ≤ 1048576) (hlv : ∀ x ∈ d.settings.lists, x.levels.length ≤ 1048576) (hvr : d.settings.vars.length ≤ 1048576)
    (hn : (gat5 N d).length ≤ 1073741823) (ht : ∀ t ∈ gat5 N d, t.size < 4294967281) : GC 20 [d.enc, .str s] (.bool ((gat5 N d).any (hasS s))) := by
  intro E hI h n
  refine goS Tryz.func20 rfl (by kernel_rfl) (by kernel_rfl) (by simp [go_sem]) fun ho => ?_
  have hHb : ∀ j y, h j = some y → j < n := fun j y e => (ho j y e).1
  have q5 : (gat5 N d).length = (gat4 N d).length + (d.settings.vars.flatMap varT).length := by rw [gat5, List.length_append]
  have q4 : (gat4 N d).length = (gat3 N d).length + (d.settings.lists.flatMap lstT).length := by rw [gat4, List.length_append]
  have q3 : (gat3 N d).length = (gat2 N d).length + (d.settings.styles.flatMap styT).length := by rw [gat3, List.length_append]
  have q2 : (gat2 N d).length = (gat1 N d).length + (d.settings.comments.flatMap comT).length := by rw [gat2, List.length_append]
  have q1 : (gat1 N d).length = (gatL N d).length + (d.revs.flatMap revT).length := by rw [gat1, List.length_append]
  refine SP_mid 1 (α := Unit) (fun _ => [(2, .iptr (dcs d)), (3, .iptr [.str s])]) (fun _ => h) (fun _ m => n ≤ m) ?_ (fun _ p hp => ?_)
  · simp [go_sem, Document.enc, Head.flat, Settings.flat]
    refine ⟨by omega, ⟨ptr_fz (ho.none (Nat.le_refl n)) (by simp [hset]), ptr_fz (ho.none (by omega)) (by simp [hset])⟩, fun j y => ?_⟩
    have := ho j y; simp only [hset]; grind
  refine SP_mid 0 (α := Unit) (fun _ => [(2, .iptr (dcs d)), (3, .iptr [.str s]), (5, .ptr p 0)]) (fun _ => hset h p (some (.cells [.imm 0 [] true]))) (fun _ m => p + 1 = m) ?_ (fun _ m hm => ?_)
  · simp [go_sem, Fz.same]
  subst hm
  refine SP_mid 0 (α := Unit) (fun _ => [(2, .iptr (dcs d)), (3, .iptr [.str s]), (5, .ptr p 0), (6, .ptr (p + 1) 0)]) (fun _ => hset (hset h p (some (.cells [.imm 0 [] true]))) (p + 1) (some (.cells [.fn (.func 113) [] [], .fn (.func 114) [] [], .fn (.func 115) [] []]))) (fun _ m => p + 2 = m) ?_ (fun _ m hm => ?_)
  · simp [go_sem]
    refine PC.use w46 ?_
    simp [go_sem, Fz.same, hset_at, hset_two]
  subst hm
  refine SP_mid 0 (α := Unit) (fun _ => [(2, .iptr (dcs d)), (3, .iptr [.str s]), (5, .ptr p 0), (6, .ptr (p + 1) 0)]) (fun _ => hset (hset h p (some (.cells [.imm 0 [] true]))) (p + 1) (some (.cells [.fn (.func 55) [] [.ptr p 0], .fn (.func 114) [] [], .fn (.func 115) [] []]))) (fun _ m => p + 2 = m) ?_ (fun _ m hm => ?_)
  · simp [go_sem, Fz.same, hset_at, hset_two]
  subst hm
  refine SP_mid 1 (α := Unit) (fun _ => [(2, .iptr (dcs d)), (3, .iptr [.str s]), (5, .ptr p 0), (6, .iptr [.fn (.func 55) [] [.ptr p 0], .fn (.func 114) [] [], .fn (.func 56) [] [.ptr p 0]])]) (fun _ => hset h p (some (.cells [.imm 0 [] true]))) (fun _ m => p + 2 = m) ?_ (fun _ m hm => ?_)
  · simp [go_sem, Fz.same, hset_at, hset_two]
    refine ⟨ptr_fz (by rw [hset_ne _ _ (by omega)]; exact ho.none (by omega)) (hset_at _ _ _), fun j y e => ?_⟩
    rw [hset_ne _ _ ?_]
    · exact e
    · rintro rfl
      rw [hset_ne _ _ (by omega), ho.none (by omega)] at e; cases e
  subst hm
  refine SWE_pack0 p 1 none (hset_at _ _ _) ?_
  rw [hset_two]
  have hdoc := d49w (gatC (p := p) (n0 := p + 1) (Nat.lt_succ_self p) hK) d hd trivial N hl [] (by show (gatL N d).length ≤ _; omega) (H := hset h p (some (.list 1 []))) (n := p + 2) (by omega) (fun o y e => by
    simp only [stS] at e
    split at e
    · subst_vars; rw [hset_at]; exact e
    · cases e)
  rw [upS_stS, hset_two, show (rwDoc gatR N d []).2 = gatL N d from rfl] at hdoc
  have hgl : p + 1 ≤ p + 2 := by omega
  refine SP_mid 0 (α := Unit) (fun _ => [(2, .iptr (dcs d)), (3, .iptr [.str s]), (5, .ptr p 0)]) (fun _ => hset h p (some (.list 1 ((gatL N d).map SV.str)))) (fun _ m => p + 2 = m) ?_ (fun _ m hm => ?_)
  · simp [go_sem, Head.flat, Settings.flat]
    refine SC.use (by simpa [Document.enc, Head.flat, Settings.flat] using hdoc) ?_
    rintro v H' n' ⟨rfl, rfl, rfl⟩
    simp [go_sem, Fz.same]
  subst hm
  refine SWE_unpW p (strEnc.size _) (hset_at _ _ _) fun o m hm hA hoe => ?_
  rw [hset_two]
  have hA : AccI (p + 1) m 1 o ((gatL N d).map SV.str) := ⟨hA.none, fun j e => by have := hA.lt j e; omega, hA.size⟩
  have hm : p + 1 ≤ m ∧ AccI (p + 1) m 1 o ((gatL N d).map SV.str) := ⟨by omega, hA⟩
  refine SP_midS 0 (α := Option Nat) (fun _ => [(2, .iptr (dcs d)), (3, .iptr [.str s]), (5, .ptr p 0)]) (fun o => cellH p o ((gat1 N d).map SV.str) h) (fun o m => p + 1 ≤ m ∧ AccI (p + 1) m 1 o ((gat1 N d).map SV.str)) ?_ (fun o m hm => ?_)
  · refine SP_mid 0 (α := Unit) (fun _ => [(2, .iptr (dcs d)), (3, .iptr [.str s]), (5, .ptr p 0), (28, revsE d.revs), (29, intE (d.revs).length), (30, intE 0)]) (fun _ => cellH p o ((gatL N d).map SV.str) h) (fun _ m2 => m = m2) ?_ (fun _ m2 hm2 => ?_)
    · simp [go_sem, Fz.same, dcs, Head.flat, Settings.flat]
    subst hm2
    obtain ⟨T, hT⟩ : ∃ F : Nat → List ByteArray, ∀ i, F i = gatL N d ++ (d.revs.take i).flatMap revT := ⟨_, fun _ => rfl⟩
    have hT0 : T 0 = gatL N d := by rw [hT]; simp
    have hTs : ∀ k x, (h : k < (d.revs).length) → (d.revs)[k] = x → T (k + 1) = T k ++ revT x := fun k x h hx => by rw [hT, hT, take_flat revT h hx, List.append_assoc]
    have hTl : T (d.revs).length = gat1 N d := by rw [hT, List.take_length]; rfl
    have hTn : ∀ k, (T k).length ≤ (gat1 N d).length := fun k => by rw [← hTl, hT, hT, List.take_length, List.length_append, List.length_append]; have := take_flat_le revT d.revs k; omega
    clear hT
    refine SP_block (goloopS 0 (α := Nat × Option Nat) (fun q => [(2, .iptr (dcs d)), (3, .iptr [.str s]), (5, .ptr p 0), (28, revsE d.revs), (29, intE (d.revs).length), (30, intE q.1)]) (fun q => cellH p q.2 ((T q.1).map SV.str) h)
      (fun q m => q.1 ≤ (d.revs).length ∧ p + 1 ≤ m ∧ AccI (p + 1) m 1 q.2 ((T q.1).map SV.str)) (fun q => (d.revs).length - q.1) (0, o) ⟨Nat.zero_le _, hm.1, by simp only [hT0]; exact hm.2⟩ ?_ ?_ ?_)
    · simp [go_sem, look, Fz.same]
    · simp only [hT0]; exact look_same
    rintro ⟨k, o⟩ m ⟨hk, hm, hA⟩
    dsimp only at hk hm hA ⊢
    by_cases hlt : k < (d.revs).length
    · have w1 : IntKind.i64.wrap ((k : Int) + 1) = ((k + 1 : Nat) : Int) := by rw [wr64] <;> omega
      obtain ⟨x, hx⟩ : ∃ x, (d.revs)[k] = x := ⟨_, rfl⟩
      have hst := hTs k x hlt hx
      have hle := hTn (k + 1)
      rw [hst, List.length_append] at hle
      have hes : ((T k).map SV.str).length = (T k).length := List.length_map _
      have he2 : (T (k + 1)).map SV.str = (T k).map SV.str ++ (revT x).map SV.str := by rw [hst, List.map_append]
      generalize hE : (T k).map SV.str = es at hA he2 hes ⊢
      have hxb : ∀ j y, cellH p o es h j = some y → j < m := cellH_lt (fun j y e => by have := hHb j y e; omega) hA (by omega) (by omega)
      refine SP_mid 0 (α := Unit) (fun _ => [(2, .iptr (dcs d)), (3, .iptr [.str s]), (5, .ptr p 0), (28, revsE d.revs), (29, intE (d.revs).length), (30, intE k), (31, .bool true)]) (fun _ => cellH p o es h) (fun _ m2 => m = m2) ?_ (fun _ m2 hm2 => ?_)
      · simp [go_sem, Fz.same, hlt]
      subst hm2
      refine SP_mid 0 (α := Unit) (fun _ => [(2, .iptr (dcs d)), (3, .iptr [.str s]), (5, .ptr p 0), (28, revsE d.revs), (29, intE (d.revs).length), (30, intE k)]) (fun _ => cellH p o es h) (fun _ m2 => m = m2) ?_ (fun _ m2 hm2 => ?_)
      · simp [go_sem, Fz.same]
      subst hm2
      refine SP_midS 0 (α := Option Nat) (fun _ => [(2, .iptr (dcs d)), (3, .iptr [.str s]), (5, .ptr p 0), (28, revsE d.revs), (29, intE (d.revs).length), (30, intE k)]) (fun o => cellH p o ((T (k + 1)).map SV.str) h) (fun o m => p + 1 ≤ m ∧ AccI (p + 1) m 1 o ((T (k + 1)).map SV.str)) (SP_block ?_) (fun o m hm => ?_)
      · rw [he2]
        refine SP_mid 1 (α := Unit) (fun _ => [(2, .iptr (dcs d)), (3, .iptr [.str s]), (5, .ptr p 0), (28, revsE d.revs), (29, intE (d.revs).length), (30, intE k), (8, .iptr [intE x.id, .str x.author, intE x.time])]) (fun _ => cellH p o es h) (fun _ m2 => m ≤ m2) ?_ (fun _ m2 hm2 => ?_)
        · simp [go_sem, Fz.same, hlt, hx, Rev.enc, hset_at]
          refine ⟨ptr_fz (lt_none hxb (Nat.le_refl m)) (hset_at _ _ _), set_keep hxb (set_keep hxb look_same)⟩
        obtain ⟨out, ho1, ho2, ho3, ho4, ho5, ho6⟩ := cell_push (h := h) (fun j y e => by have := hHb j y e; omega) hA (Nat.lt_succ_self p) (by omega) hm2 (revT x) (by simp [revT]) (by rw [hes]; omega)
        simp only [revT, List.map_cons, List.map_nil, List.length_cons, List.length_nil, Nat.zero_add] at ho1 ho2 ho4 ho5 ho6 ⊢
        have hpo := cellH_at (h := h) hA (Nat.lt_succ_self p)
        have hpm : p ≠ m2 := by omega
        simp only [Out.app] at ho5 ho6
        refine SP_of ?_
        simp [go_sem, hpo]
        rw [ho1]
        simp [go_sem, ho5, ho2, ho3]
        exact ⟨some (m2 + 1), ⟨by omega, ho4⟩, ho6⟩
      · refine SP_of ?_
        simp [go_sem, w1, Fz.same, -Int.natCast_add]
        exact ⟨k + 1, by omega, o, ⟨by omega, hm.1, hm.2⟩, rfl, look_same⟩
    · have hke : k = (d.revs).length := by omega
      subst hke
      rw [hTl] at hA ⊢
      refine SP_of ?_
      simp [go_sem, Fz.same]
      exact ⟨o, ⟨hm, hA⟩, look_same⟩
  refine SP_midS 0 (α := Option Nat) (fun _ => [(2, .iptr (dcs d)), (3, .iptr [.str s]), (5, .ptr p 0)]) (fun o => cellH p o ((gat2 N d).map SV.str) h) (fun o m => p + 1 ≤ m ∧ AccI (p + 1) m 1 o ((gat2 N d).map SV.str)) ?_ (fun o m hm => ?_)
  · refine SP_mid 0 (α := Unit) (fun _ => [(2, .iptr (dcs d)), (3, .iptr [.str s]), (5, .ptr p 0), (42, commentsE d.settings.comments), (43, intE (d.settings.comments).length), (44, intE 0)]) (fun _ => cellH p o ((gat1 N d).map SV.str) h) (fun _ m2 => m = m2) ?_ (fun _ m2 hm2 => ?_)
    · simp [go_sem, Fz.same, dcs, Head.flat, Settings.flat]
    subst hm2
    obtain ⟨T, hT⟩ : ∃ F : Nat → List ByteArray, ∀ i, F i = gat1 N d ++ (d.settings.comments.take i).flatMap comT := ⟨_, fun _ => rfl⟩
    have hT0 : T 0 = gat1 N d := by rw [hT]; simp
    have hTs : ∀ k x, (h : k < (d.settings.comments).length) → (d.settings.comments)[k] = x → T (k + 1) = T k ++ comT x := fun k x h hx => by rw [hT, hT, take_flat comT h hx, List.append_assoc]
    have hTl : T (d.settings.comments).length = gat2 N d := by rw [hT, List.take_length]; rfl
    have hTn : ∀ k, (T k).length ≤ (gat2 N d).length := fun k => by rw [← hTl, hT, hT, List.take_length, List.length_append, List.length_append]; have := take_flat_le comT d.settings.comments k; omega
    clear hT
    refine SP_block (goloopS 0 (α := Nat × Option Nat) (fun q => [(2, .iptr (dcs d)), (3, .iptr [.str s]), (5, .ptr p 0), (42, commentsE d.settings.comments), (43, intE (d.settings.comments).length), (44, intE q.1)]) (fun q => cellH p q.2 ((T q.1).map SV.str) h)
      (fun q m => q.1 ≤ (d.settings.comments).length ∧ p + 1 ≤ m ∧ AccI (p + 1) m 1 q.2 ((T q.1).map SV.str)) (fun q => (d.settings.comments).length - q.1) (0, o) ⟨Nat.zero_le _, hm.1, by simp only [hT0]; exact hm.2⟩ ?_ ?_ ?_)
    · simp [go_sem, look, Fz.same]
    · simp only [hT0]; exact look_same
    rintro ⟨k, o⟩ m ⟨hk, hm, hA⟩
    dsimp only at hk hm hA ⊢
    by_cases hlt : k < (d.settings.comments).length
    · have w1 : IntKind.i64.wrap ((k : Int) + 1) = ((k + 1 : Nat) : Int) := by rw [wr64] <;> omega
      obtain ⟨x, hx⟩ : ∃ x, (d.settings.comments)[k] = x := ⟨_, rfl⟩
      have hst := hTs k x hlt hx
      have hle := hTn (k + 1)
      rw [hst, List.length_append] at hle
      have hes : ((T k).map SV.str).length = (T k).length := List.length_map _
      have he2 : (T (k + 1)).map SV.str = (T k).map SV.str ++ (comT x).map SV.str := by rw [hst, List.map_append]
      generalize hE : (T k).map SV.str = es at hA he2 hes ⊢
      have hxb : ∀ j y, cellH p o es h j = some y → j < m := cellH_lt (fun j y e => by have := hHb j y e; omega) hA (by omega) (by omega)
      refine SP_mid 0 (α := Unit) (fun _ => [(2, .iptr (dcs d)), (3, .iptr [.str s]), (5, .ptr p 0), (42, commentsE d.settings.comments), (43, intE (d.settings.comments).length), (44, intE k), (45, .bool true)]) (fun _ => cellH p o es h) (fun _ m2 => m = m2) ?_ (fun _ m2 hm2 => ?_)
      · simp [go_sem, Fz.same, hlt]
      subst hm2
      refine SP_mid 0 (α := Unit) (fun _ => [(2, .iptr (dcs d)), (3, .iptr [.str s]), (5, .ptr p 0), (42, commentsE d.settings.comments), (43, intE (d.settings.comments).length), (44, intE k)]) (fun _ => cellH p o es h) (fun _ m2 => m = m2) ?_ (fun _ m2 hm2 => ?_)
      · simp [go_sem, Fz.same]
      subst hm2
      refine SP_midS 0 (α := Option Nat) (fun _ => [(2, .iptr (dcs d)), (3, .iptr [.str s]), (5, .ptr p 0), (42, commentsE d.settings.comments), (43, intE (d.settings.comments).length), (44, intE k)]) (fun o => cellH p o ((T (k + 1)).map SV.str) h) (fun o m => p + 1 ≤ m ∧ AccI (p + 1) m 1 o ((T (k + 1)).map SV.str)) (SP_block ?_) (fun o m hm => ?_)
      · rw [he2]
        refine SP_mid 1 (α := Unit) (fun _ => [(2, .iptr (dcs d)), (3, .iptr [.str s]), (5, .ptr p 0), (42, commentsE d.settings.comments), (43, intE (d.settings.comments).length), (44, intE k), (10, .iptr [intE x.id, intE x.parent, .str x.author, intE x.time, .str x.text, .bool x.done])]) (fun _ => cellH p o es h) (fun _ m2 => m ≤ m2) ?_ (fun _ m2 hm2 => ?_)
        · simp [go_sem, Fz.same, hlt, hx, Comment.enc, hset_at]
          refine ⟨ptr_fz (lt_none hxb (Nat.le_refl m)) (hset_at _ _ _), set_keep hxb (set_keep hxb look_same)⟩
        obtain ⟨out, ho1, ho2, ho3, ho4, ho5, ho6⟩ := cell_push (h := h) (fun j y e => by have := hHb j y e; omega) hA (Nat.lt_succ_self p) (by omega) hm2 (comT x) (by simp [comT]) (by rw [hes]; omega)
        simp only [comT, List.map_cons, List.map_nil, List.length_cons, List.length_nil, Nat.zero_add] at ho1 ho2 ho4 ho5 ho6 ⊢
        have hpo := cellH_at (h := h) hA (Nat.lt_succ_self p)
        have hpm : p ≠ m2 := by omega
        simp only [Out.app] at ho5 ho6
        refine SP_of ?_
        simp [go_sem, hpo]
        rw [ho1]
        simp [go_sem, ho5, ho2, ho3]
        exact ⟨some (m2 + 1), ⟨by omega, ho4⟩, ho6⟩
      · refine SP_of ?_
        simp [go_sem, w1, Fz.same, -Int.natCast_add]
        exact ⟨k + 1, by omega, o, ⟨by omega, hm.1, hm.2⟩, rfl, look_same⟩
    · have hke : k = (d.settings.comments).length := by omega
      subst hke
      rw [hTl] at hA ⊢
      refine SP_of ?_
      simp [go_sem, Fz.same]
      exact ⟨o, ⟨hm, hA⟩, look_same⟩
  refine SP_midS 0 (α := Option Nat) (fun _ => [(2, .iptr (dcs d)), (3, .iptr [.str s]), (5, .ptr p 0)]) (fun o => cellH p o ((gat3 N d).map SV.str) h) (fun o m => p + 1 ≤ m ∧ AccI (p + 1) m 1 o ((gat3 N d).map SV.str)) ?_ (fun o m hm => ?_)
  · refine SP_mid 0 (α := Unit) (fun _ => [(2, .iptr (dcs d)), (3, .iptr [.str s]), (5, .ptr p 0), (58, stylesE d.settings.styles), (59, intE (d.settings.styles).length), (60, intE 0)]) (fun _ => cellH p o ((gat2 N d).map SV.str) h) (fun _ m2 => m = m2) ?_ (fun _ m2 hm2 => ?_)
    · simp [go_sem, Fz.same, dcs, Head.flat, Settings.flat]
    subst hm2
    obtain ⟨T, hT⟩ : ∃ F : Nat → List ByteArray, ∀ i, F i = gat2 N d ++ (d.settings.styles.take i).flatMap styT := ⟨_, fun _ => rfl⟩
    have hT0 : T 0 = gat2 N d := by rw [hT]; simp
    have hTs : ∀ k x, (h : k < (d.settings.styles).length) → (d.settings.styles)[k] = x → T (k + 1) = T k ++ styT x := fun k x h hx => by rw [hT, hT, take_flat styT h hx, List.append_assoc]
    have hTl : T (d.settings.styles).length = gat3 N d := by rw [hT, List.take_length]; rfl
    have hTn : ∀ k, (T k).length ≤ (gat3 N d).length := fun k => by rw [← hTl, hT, hT, List.take_length, List.length_append, List.length_append]; have := take_flat_le styT d.settings.styles k; omega
    clear hT
    refine SP_block (goloopS 0 (α := Nat × Option Nat) (fun q => [(2, .iptr (dcs d)), (3, .iptr [.str s]), (5, .ptr p 0), (58, stylesE d.settings.styles), (59, intE (d.settings.styles).length), (60, intE q.1)]) (fun q => cellH p q.2 ((T q.1).map SV.str) h)
      (fun q m => q.1 ≤ (d.settings.styles).length ∧ p + 1 ≤ m ∧ AccI (p + 1) m 1 q.2 ((T q.1).map SV.str)) (fun q => (d.settings.styles).length - q.1) (0, o) ⟨Nat.zero_le _, hm.1, by simp only [hT0]; exact hm.2⟩ ?_ ?_ ?_)
    · simp [go_sem, look, Fz.same]
    · simp only [hT0]; exact look_same
    rintro ⟨k, o⟩ m ⟨hk, hm, hA⟩
    dsimp only at hk hm hA ⊢
    by_cases hlt : k < (d.settings.styles).length
    · have w1 : IntKind.i64.wrap ((k : Int) + 1) = ((k + 1 : Nat) : Int) := by rw [wr64] <;> omega
      obtain ⟨x, hx⟩ : ∃ x, (d.settings.styles)[k] = x := ⟨_, rfl⟩
      have hst := hTs k x hlt hx
      have hle := hTn (k + 1)
      rw [hst, List.length_append] at hle
      have hes : ((T k).map SV.str).length = (T k).length := List.length_map _
      have he2 : (T (k + 1)).map SV.str = (T k).map SV.str ++ (styT x).map SV.str := by rw [hst, List.map_append]
      generalize hE : (T k).map SV.str = es at hA he2 hes ⊢
      have hxb : ∀ j y, cellH p o es h j = some y → j < m := cellH_lt (fun j y e => by have := hHb j y e; omega) hA (by omega) (by omega)
      refine SP_mid 0 (α := Unit) (fun _ => [(2, .iptr (dcs d)), (3, .iptr [.str s]), (5, .ptr p 0), (58, stylesE d.settings.styles), (59, intE (d.settings.styles).length), (60, intE k), (61, .bool true)]) (fun _ => cellH p o es h) (fun _ m2 => m = m2) ?_ (fun _ m2 hm2 => ?_)
      · simp [go_sem, Fz.same, hlt]
      subst hm2
      refine SP_mid 0 (α := Unit) (fun _ => [(2, .iptr (dcs d)), (3, .iptr [.str s]), (5, .ptr p 0), (58, stylesE d.settings.styles), (59, intE (d.settings.styles).length), (60, intE k)]) (fun _ => cellH p o es h) (fun _ m2 => m = m2) ?_ (fun _ m2 hm2 => ?_)
      · simp [go_sem, Fz.same]
      subst hm2
      refine SP_midS 0 (α := Option Nat) (fun _ => [(2, .iptr (dcs d)), (3, .iptr [.str s]), (5, .ptr p 0), (58, stylesE d.settings.styles), (59, intE (d.settings.styles).length), (60, intE k)]) (fun o => cellH p o ((T (k + 1)).map SV.str) h) (fun o m => p + 1 ≤ m ∧ AccI (p + 1) m 1 o ((T (k + 1)).map SV.str)) (SP_block ?_) (fun o m hm => ?_)
      · rw [he2]
        refine SP_mid 1 (α := Unit) (fun _ => [(2, .iptr (dcs d)), (3, .iptr [.str s]), (5, .ptr p 0), (58, stylesE d.settings.styles), (59, intE (d.settings.styles).length), (60, intE k), (12, .iptr [intE x.id, intE x.kind, .str x.name, intE x.base, intE x.next, propsE x.props])]) (fun _ => cellH p o es h) (fun _ m2 => m ≤ m2) ?_ (fun _ m2 hm2 => ?_)
        · simp [go_sem, Fz.same, hlt, hx, Style.enc, hset_at]
          refine ⟨ptr_fz (lt_none hxb (Nat.le_refl m)) (hset_at _ _ _), set_keep hxb (set_keep hxb look_same)⟩
        obtain ⟨out, ho1, ho2, ho3, ho4, ho5, ho6⟩ := cell_push (h := h) (fun j y e => by have := hHb j y e; omega) hA (Nat.lt_succ_self p) (by omega) hm2 (styT x) (by simp [styT]) (by rw [hes]; omega)
        simp only [styT, List.map_cons, List.map_nil, List.length_cons, List.length_nil, Nat.zero_add] at ho1 ho2 ho4 ho5 ho6 ⊢
        have hpo := cellH_at (h := h) hA (Nat.lt_succ_self p)
        have hpm : p ≠ m2 := by omega
        simp only [Out.app] at ho5 ho6
        refine SP_of ?_
        simp [go_sem, hpo]
        rw [ho1]
        simp [go_sem, ho5, ho2, ho3]
        exact ⟨some (m2 + 1), ⟨by omega, ho4⟩, ho6⟩
      · refine SP_of ?_
        simp [go_sem, w1, Fz.same, -Int.natCast_add]
        exact ⟨k + 1, by omega, o, ⟨by omega, hm.1, hm.2⟩, rfl, look_same⟩
    · have hke : k = (d.settings.styles).length := by omega
      subst hke
      rw [hTl] at hA ⊢
      refine SP_of ?_
      simp [go_sem, Fz.same]
      exact ⟨o, ⟨hm, hA⟩, look_same⟩
  refine SP_midS 0 (α := Option Nat) (fun _ => [(2, .iptr (dcs d)), (3, .iptr [.str s]), (5, .ptr p 0)]) (fun o => cellH p o ((gat4 N d).map SV.str) h) (fun o m => p + 1 ≤ m ∧ AccI (p + 1) m 1 o ((gat4 N d).map SV.str)) ?_ (fun o m hm => ?_)
  · refine SP_mid 0 (α := Unit) (fun _ => [(2, .iptr (dcs d)), (3, .iptr [.str s]), (5, .ptr p 0), (72, listsE d.settings.lists), (73, intE (d.settings.lists).length), (74, intE 0)]) (fun _ => cellH p o ((gat3 N d).map SV.str) h) (fun _ m2 => m = m2) ?_ (fun _ m2 hm2 => ?_)
    · simp [go_sem, Fz.same, dcs, Head.flat, Settings.flat]
    subst hm2
    obtain ⟨T, hT⟩ : ∃ F : Nat → List ByteArray, ∀ i, F i = gat3 N d ++ (d.settings.lists.take i).flatMap lstT := ⟨_, fun _ => rfl⟩
    have hT0 : T 0 = gat3 N d := by rw [hT]; simp
    have hTs : ∀ k x, (h : k < (d.settings.lists).length) → (d.settings.lists)[k] = x → T (k + 1) = T k ++ lstT x := fun k x h hx => by rw [hT, hT, take_flat lstT h hx, List.append_assoc]
    have hTl : T (d.settings.lists).length = gat4 N d := by rw [hT, List.take_length]; rfl
    have hTn : ∀ k, (T k).length ≤ (gat4 N d).length := fun k => by rw [← hTl, hT, hT, List.take_length, List.length_append, List.length_append]; have := take_flat_le lstT d.settings.lists k; omega
    clear hT
    refine SP_block (goloopS 0 (α := Nat × Option Nat) (fun q => [(2, .iptr (dcs d)), (3, .iptr [.str s]), (5, .ptr p 0), (72, listsE d.settings.lists), (73, intE (d.settings.lists).length), (74, intE q.1)]) (fun q => cellH p q.2 ((T q.1).map SV.str) h)
      (fun q m => q.1 ≤ (d.settings.lists).length ∧ p + 1 ≤ m ∧ AccI (p + 1) m 1 q.2 ((T q.1).map SV.str)) (fun q => (d.settings.lists).length - q.1) (0, o) ⟨Nat.zero_le _, hm.1, by simp only [hT0]; exact hm.2⟩ ?_ ?_ ?_)
    · simp [go_sem, look, Fz.same]
    · simp only [hT0]; exact look_same
    rintro ⟨k, o⟩ m ⟨hk, hm, hA⟩
    dsimp only at hk hm hA ⊢
    by_cases hlt : k < (d.settings.lists).length
    · have w1 : IntKind.i64.wrap ((k : Int) + 1) = ((k + 1 : Nat) : Int) := by rw [wr64] <;> omega
      obtain ⟨x, hx⟩ : ∃ x, (d.settings.lists)[k] = x := ⟨_, rfl⟩
      have hst := hTs k x hlt hx
      have hle := hTn (k + 1)
      rw [hst, List.length_append] at hle
      have hes : ((T k).map SV.str).length = (T k).length := List.length_map _
      have he2 : (T (k + 1)).map SV.str = (T k).map SV.str ++ (lstT x).map SV.str := by rw [hst, List.map_append]
      generalize hE : (T k).map SV.str = es at hA he2 hes ⊢
      have hxb : ∀ j y, cellH p o es h j = some y → j < m := cellH_lt (fun j y e => by have := hHb j y e; omega) hA (by omega) (by omega)
      refine SP_mid 0 (α := Unit) (fun _ => [(2, .iptr (dcs d)), (3, .iptr [.str s]), (5, .ptr p 0), (72, listsE d.settings.lists), (73, intE (d.settings.lists).length), (74, intE k), (75, .bool true)]) (fun _ => cellH p o es h) (fun _ m2 => m = m2) ?_ (fun _ m2 hm2 => ?_)
      · simp [go_sem, Fz.same, hlt]
      subst hm2
      refine SP_mid 0 (α := Unit) (fun _ => [(2, .iptr (dcs d)), (3, .iptr [.str s]), (5, .ptr p 0), (72, listsE d.settings.lists), (73, intE (d.settings.lists).length), (74, intE k)]) (fun _ => cellH p o es h) (fun _ m2 => m = m2) ?_ (fun _ m2 hm2 => ?_)
      · simp [go_sem, Fz.same]
      subst hm2
      refine SP_midS 0 (α := Option Nat) (fun _ => [(2, .iptr (dcs d)), (3, .iptr [.str s]), (5, .ptr p 0), (72, listsE d.settings.lists), (73, intE (d.settings.lists).length), (74, intE k)]) (fun o => cellH p o ((T (k + 1)).map SV.str) h) (fun o m => p + 1 ≤ m ∧ AccI (p + 1) m 1 o ((T (k + 1)).map SV.str)) (SP_block ?_) (fun o m hm => ?_)
      · have hTk := hTn (k + 1)
        refine SP_mid 1 (α := Unit) (fun _ => [(2, .iptr (dcs d)), (3, .iptr [.str s]), (5, .ptr p 0), (72, listsE d.settings.lists), (73, intE (d.settings.lists).length), (74, intE k), (14, .iptr [intE x.id, levelsE x.levels])]) (fun _ => cellH p o es h) (fun _ m2 => m ≤ m2) ?_ (fun _ m2 hm2 => ?_)
        · simp [go_sem, Fz.same, hlt, hx, Lst.enc, hset_at]
          refine ⟨ptr_fz (lt_none hxb (Nat.le_refl m)) (hset_at _ _ _), set_keep hxb (set_keep hxb look_same)⟩
        subst hE
        have hlx := hlv x (hx ▸ List.getElem_mem hlt)
        have hmi : p + 1 ≤ m2 ∧ AccI (p + 1) m2 1 o ((T k).map SV.str) := ⟨by omega, hA.mono hm2⟩
        refine SP_mid 0 (α := Unit) (fun _ => [(2, .iptr (dcs d)), (3, .iptr [.str s]), (5, .ptr p 0), (72, listsE d.settings.lists), (73, intE (d.settings.lists).length), (74, intE k), (14, .iptr [intE x.id, levelsE x.levels]), (79, levelsE x.levels), (80, intE (x.levels).length), (81, intE 0)]) (fun _ => cellH p o ((T k).map SV.str) h) (fun _ m3 => m2 = m3) ?_ (fun _ m3 hm3 => ?_)
        · simp [go_sem, Fz.same]
        subst hm3
        obtain ⟨U, hU⟩ : ∃ F : Nat → List ByteArray, ∀ i, F i = T k ++ (x.levels.take i).flatMap levT := ⟨_, fun _ => rfl⟩
        have hU0 : U 0 = T k := by rw [hU]; simp
        have hUs : ∀ k_ x_, (h : k_ < (x.levels).length) → (x.levels)[k_] = x_ → U (k_ + 1) = U k_ ++ levT x_ := fun k_ x_ h hx_ => by rw [hU, hU, take_flat levT h hx_, List.append_assoc]
        have hUl : U (x.levels).length = T (k + 1) := by rw [hU, List.take_length]; rw [hst]; rfl
        have hUn : ∀ k_, (U k_).length ≤ (T (k + 1)).length := fun k_ => by rw [← hUl, hU, hU, List.take_length, List.length_append, List.length_append]; have := take_flat_le levT x.levels k_; omega
        clear hU
        refine SP_block (goloopS 0 (α := Nat × Option Nat) (fun q => [(2, .iptr (dcs d)), (3, .iptr [.str s]), (5, .ptr p 0), (72, listsE d.settings.lists), (73, intE (d.settings.lists).length), (74, intE k), (14, .iptr [intE x.id, levelsE x.levels]), (79, levelsE x.levels), (80, intE (x.levels).length), (81, intE q.1)]) (fun q => cellH p q.2 ((U q.1).map SV.str) h)
          (fun q m_ => q.1 ≤ (x.levels).length ∧ p + 1 ≤ m_ ∧ AccI (p + 1) m_ 1 q.2 ((U q.1).map SV.str)) (fun q => (x.levels).length - q.1) (0, o) ⟨Nat.zero_le _, hmi.1, by simp only [hU0]; exact hmi.2⟩ ?_ ?_ ?_)
        · simp [go_sem, look, Fz.same]
        · simp only [hU0]; exact look_same
        rintro ⟨k_, o_⟩ m_ ⟨hk_, hm_, hA_⟩
        dsimp only at hk_ hm_ hA_ ⊢
        by_cases hlt_ : k_ < (x.levels).length
        · have w1_ : IntKind.i64.wrap ((k_ : Int) + 1) = ((k_ + 1 : Nat) : Int) := by rw [wr64] <;> omega
          obtain ⟨x_, hx_⟩ : ∃ x_, (x.levels)[k_] = x_ := ⟨_, rfl⟩
          have hst_ := hUs k_ x_ hlt_ hx_
          have hle_ := hUn (k_ + 1)
          rw [hst_, List.length_append] at hle_
          have hes_ : ((U k_).map SV.str).length = (U k_).length := List.length_map _
          have he2_ : (U (k_ + 1)).map SV.str = (U k_).map SV.str ++ (levT x_).map SV.str := by rw [hst_, List.map_append]
          generalize hE_ : (U k_).map SV.str = es_ at hA_ he2_ hes_ ⊢
          have hxb_ : ∀ j y, cellH p o_ es_ h j = some y → j < m_ := cellH_lt (fun j y e => by have := hHb j y e; omega) hA_ (by omega) (by omega)
          refine SP_mid 0 (α := Unit) (fun _ => [(2, .iptr (dcs d)), (3, .iptr [.str s]), (5, .ptr p 0), (72, listsE d.settings.lists), (73, intE (d.settings.lists).length), (74, intE k), (14, .iptr [intE x.id, levelsE x.levels]), (79, levelsE x.levels), (80, intE (x.levels).length), (81, intE k_), (82, .bool true)]) (fun _ => cellH p o_ es_ h) (fun _ m2_ => m_ = m2_) ?_ (fun _ m2_ hm2_ => ?_)
          · simp [go_sem, Fz.same, hlt_]
          subst hm2_
          refine SP_mid 0 (α := Unit) (fun _ => [(2, .iptr (dcs d)), (3, .iptr [.str s]), (5, .ptr p 0), (72, listsE d.settings.lists), (73, intE (d.settings.lists).length), (74, intE k), (14, .iptr [intE x.id, levelsE x.levels]), (79, levelsE x.levels), (80, intE (x.levels).length), (81, intE k_)]) (fun _ => cellH p o_ es_ h) (fun _ m2_ => m_ = m2_) ?_ (fun _ m2_ hm2_ => ?_)
          · simp [go_sem, Fz.same]
          subst hm2_
          refine SP_midS 0 (α := Option Nat) (fun _ => [(2, .iptr (dcs d)), (3, .iptr [.str s]), (5, .ptr p 0), (72, listsE d.settings.lists), (73, intE (d.settings.lists).length), (74, intE k), (14, .iptr [intE x.id, levelsE x.levels]), (79, levelsE x.levels), (80, intE (x.levels).length), (81, intE k_)]) (fun o_ => cellH p o_ ((U (k_ + 1)).map SV.str) h) (fun o_ m_ => p + 1 ≤ m_ ∧ AccI (p + 1) m_ 1 o_ ((U (k_ + 1)).map SV.str)) (SP_block ?_) (fun o_ m_ hm_ => ?_)
          · rw [he2_]
            refine SP_mid 1 (α := Unit) (fun _ => [(2, .iptr (dcs d)), (3, .iptr [.str s]), (5, .ptr p 0), (72, listsE d.settings.lists), (73, intE (d.settings.lists).length), (74, intE k), (14, .iptr [intE x.id, levelsE x.levels]), (79, levelsE x.levels), (80, intE (x.levels).length), (81, intE k_), (16, .iptr [intE x_.format, intE x_.start, .str x_.template, intE x_.restart])]) (fun _ => cellH p o_ es_ h) (fun _ m2_ => m_ ≤ m2_) ?_ (fun _ m2_ hm2_ => ?_)
            · simp [go_sem, Fz.same, hlt_, hx_, Level.enc, hset_at]
              refine ⟨ptr_fz (lt_none hxb_ (Nat.le_refl m_)) (hset_at _ _ _), set_keep hxb_ (set_keep hxb_ look_same)⟩
            obtain ⟨out_, ho1_, ho2_, ho3_, ho4_, ho5_, ho6_⟩ := cell_push (h := h) (fun j y e => by have := hHb j y e; omega) hA_ (Nat.lt_succ_self p) (by omega) hm2_ (levT x_) (by simp [levT]) (by rw [hes_]; omega)
            simp only [levT, List.map_cons, List.map_nil, List.length_cons, List.length_nil, Nat.zero_add] at ho1_ ho2_ ho4_ ho5_ ho6_ ⊢
            have hpo_ := cellH_at (h := h) hA_ (Nat.lt_succ_self p)
            have hpm_ : p ≠ m2_ := by omega
            simp only [Out.app] at ho5_ ho6_
            refine SP_of ?_
            simp [go_sem, hpo_]
            rw [ho1_]
            simp [go_sem, ho5_, ho2_, ho3_]
            exact ⟨some (m2_ + 1), ⟨by omega, ho4_⟩, ho6_⟩
          · refine SP_of ?_
            simp [go_sem, w1_, Fz.same, -Int.natCast_add]
            exact ⟨k_ + 1, by omega, o_, ⟨by omega, hm_.1, hm_.2⟩, rfl, look_same⟩
        · have hke_ : k_ = (x.levels).length := by omega
          subst hke_
          rw [hUl] at hA_ ⊢
          refine SP_of ?_
          simp [go_sem, Fz.same]
          exact ⟨o_, ⟨hm_, hA_⟩, look_same⟩
      · refine SP_of ?_
        simp [go_sem, w1, Fz.same, -Int.natCast_add]
        exact ⟨k + 1, by omega, o, ⟨by omega, hm.1, hm.2⟩, rfl, look_same⟩
    · have hke : k = (d.settings.lists).length := by omega
      subst hke
      rw [hTl] at hA ⊢
      refine SP_of ?_
      simp [go_sem, Fz.same]
      exact ⟨o, ⟨hm, hA⟩, look_same⟩
  refine SP_midS 3 (α := Unit) (fun _ => [(2, .iptr (dcs d)), (3, .iptr [.str s]), (5, .iptr [.imm 1 ((gat5 N d).map SV.str) false])]) (fun _ => h) (fun _ m => p + 1 ≤ m) ?_ (fun _ m hm => ?_)
  · refine SP_mid 0 (α := Unit) (fun _ => [(2, .iptr (dcs d)), (3, .iptr [.str s]), (5, .ptr p 0), (94, varsE d.settings.vars), (95, intE (d.settings.vars).length), (96, intE 0)]) (fun _ => cellH p o ((gat4 N d).map SV.str) h) (fun _ m2 => m = m2) ?_ (fun _ m2 hm2 => ?_)
    · simp [go_sem, Fz.same, dcs, Head.flat, Settings.flat]
    subst hm2
    obtain ⟨T, hT⟩ : ∃ F : Nat → List ByteArray, ∀ i, F i = gat4 N d ++ (d.settings.vars.take i).flatMap varT := ⟨_, fun _ => rfl⟩
    have hT0 : T 0 = gat4 N d := by rw [hT]; simp
    have hTs : ∀ k x, (h : k < (d.settings.vars).length) → (d.settings.vars)[k] = x → T (k + 1) = T k ++ varT x := fun k x h hx => by rw [hT, hT, take_flat varT h hx, List.append_assoc]
    have hTl : T (d.settings.vars).length = gat5 N d := by rw [hT, List.take_length]; rfl
    have hTn : ∀ k, (T k).length ≤ (gat5 N d).length := fun k => by rw [← hTl, hT, hT, List.take_length, List.length_append, List.length_append]; have := take_flat_le varT d.settings.vars k; omega
    clear hT
    refine SP_block (goloopS 0 (α := Nat × Option Nat) (fun q => [(2, .iptr (dcs d)), (3, .iptr [.str s]), (5, .ptr p 0), (94, varsE d.settings.vars), (95, intE (d.settings.vars).length), (96, intE q.1)]) (fun q => cellH p q.2 ((T q.1).map SV.str) h)
      (fun q m => q.1 ≤ (d.settings.vars).length ∧ p + 1 ≤ m ∧ AccI (p + 1) m 1 q.2 ((T q.1).map SV.str)) (fun q => (d.settings.vars).length - q.1) (0, o) ⟨Nat.zero_le _, hm.1, by simp only [hT0]; exact hm.2⟩ ?_ ?_ ?_)
    · simp [go_sem, look, Fz.same]
    · simp only [hT0]; exact look_same
    rintro ⟨k, o⟩ m ⟨hk, hm, hA⟩
    dsimp only at hk hm hA ⊢
    by_cases hlt : k < (d.settings.vars).length
    · have w1 : IntKind.i64.wrap ((k : Int) + 1) = ((k + 1 : Nat) : Int) := by rw [wr64] <;> omega
      obtain ⟨x, hx⟩ : ∃ x, (d.settings.vars)[k] = x := ⟨_, rfl⟩
      have hst := hTs k x hlt hx
      have hle := hTn (k + 1)
      rw [hst, List.length_append] at hle
      have hes : ((T k).map SV.str).length = (T k).length := List.length_map _
      have he2 : (T (k + 1)).map SV.str = (T k).map SV.str ++ (varT x).map SV.str := by rw [hst, List.map_append]
      generalize hE : (T k).map SV.str = es at hA he2 hes ⊢
      have hxb : ∀ j y, cellH p o es h j = some y → j < m := cellH_lt (fun j y e => by have := hHb j y e; omega) hA (by omega) (by omega)
      refine SP_mid 0 (α := Unit) (fun _ => [(2, .iptr (dcs d)), (3, .iptr [.str s]), (5, .ptr p 0), (94, varsE d.settings.vars), (95, intE (d.settings.vars).length), (96, intE k), (97, .bool true)]) (fun _ => cellH p o es h) (fun _ m2 => m = m2) ?_ (fun _ m2 hm2 => ?_)
      · simp [go_sem, Fz.same, hlt]
      subst hm2
      refine SP_mid 0 (α := Unit) (fun _ => [(2, .iptr (dcs d)), (3, .iptr [.str s]), (5, .ptr p 0), (94, varsE d.settings.vars), (95, intE (d.settings.vars).length), (96, intE k)]) (fun _ => cellH p o es h) (fun _ m2 => m = m2) ?_ (fun _ m2 hm2 => ?_)
      · simp [go_sem, Fz.same]
      subst hm2
      refine SP_midS 0 (α := Option Nat) (fun _ => [(2, .iptr (dcs d)), (3, .iptr [.str s]), (5, .ptr p 0), (94, varsE d.settings.vars), (95, intE (d.settings.vars).length), (96, intE k)]) (fun o => cellH p o ((T (k + 1)).map SV.str) h) (fun o m => p + 1 ≤ m ∧ AccI (p + 1) m 1 o ((T (k + 1)).map SV.str)) (SP_block ?_) (fun o m hm => ?_)
      · rw [he2]
        refine SP_mid 1 (α := Unit) (fun _ => [(2, .iptr (dcs d)), (3, .iptr [.str s]), (5, .ptr p 0), (94, varsE d.settings.vars), (95, intE (d.settings.vars).length), (96, intE k), (18, .iptr [.str x.name, .str x.value])]) (fun _ => cellH p o es h) (fun _ m2 => m ≤ m2) ?_ (fun _ m2 hm2 => ?_)
        · simp [go_sem, Fz.same, hlt, hx, Var.enc, hset_at]
          refine ⟨ptr_fz (lt_none hxb (Nat.le_refl m)) (hset_at _ _ _), set_keep hxb (set_keep hxb look_same)⟩
        obtain ⟨out, ho1, ho2, ho3, ho4, ho5, ho6⟩ := cell_push (h := h) (fun j y e => by have := hHb j y e; omega) hA (Nat.lt_succ_self p) (by omega) hm2 (varT x) (by simp [varT]) (by rw [hes]; omega)
        simp only [varT, List.map_cons, List.map_nil, List.length_cons, List.length_nil, Nat.zero_add] at ho1 ho2 ho4 ho5 ho6 ⊢
        have hpo := cellH_at (h := h) hA (Nat.lt_succ_self p)
        have hpm : p ≠ m2 := by omega
        simp only [Out.app] at ho5 ho6
        refine SP_of ?_
        simp [go_sem, hpo]
        rw [ho1]
        simp [go_sem, ho5, ho2, ho3]
        exact ⟨some (m2 + 1), ⟨by omega, ho4⟩, ho6⟩
      · refine SP_of ?_
        simp [go_sem, w1, Fz.same, -Int.natCast_add]
        exact ⟨k + 1, by omega, o, ⟨by omega, hm.1, hm.2⟩, rfl, look_same⟩
    · have hke : k = (d.settings.vars).length := by omega
      subst hke
      rw [hTl] at hA ⊢
      refine SP_of ?_
      simp [go_sem, Fz.same]
      refine ⟨by omega, box_fz (pre := []) (ho.none hp) (cellH_at hA (Nat.lt_succ_self p)) (accfzB hA (fun j h1 h2 => ho.none (by omega)) fun j e => acc_at j e), fun j y e => ?_⟩
      have := hHb j y e
      refine acc_old (n := p + 1) (fun j y e => ?_) hA _ _ ?_
      · by_cases e1 : j = p
        · omega
        · rw [hset_ne _ _ e1] at e; have := hHb j y e; omega
      · rw [hset_ne _ _ (by omega)]; exact e
  refine SP_of ?_
  simp [go_sem]
  refine (w57 (gat5 N d) s (by omega) ht).use hI ?_
  simp [go_sem]
  exact ret0 ho rfl rfl
theorem ext_list (t : ByteArray) (i n : Nat) : (t.extract i (i + n)).toList = (t.data.toList.drop i).take n := by
  rw [ByteArray.toList_eq, ByteArray.data_extract, Array.toList_extract, List.extract_eq_take_drop]; simp
theorem hasS_iff {s t : ByteArray} : hasS s t = true ↔ ∃ i, i + s.size ≤ t.size ∧ (t.extract i (i + s.size)).toList = s.toList := by
  have e1 : t.data.toList.length = t.size := by rw [Array.length_toList]; rfl
  have e2 : s.data.toList.length = s.size := by rw [Array.length_toList]; rfl
  have hocc : ∀ i, i + s.size ≤ t.size → (Lib.occAt t.data.toList s.data.toList i = true ↔ (t.extract i (i + s.size)).toList = s.toList) := fun i hi => by
    rw [Lib.occAt_iff_take _ _ _ (by rw [e1, e2]; exact hi), ext_list, ByteArray.toList_eq, e2, beq_iff_eq]
  unfold hasS
  rw [decide_eq_true_eq]
  rcases Lib.index_spec t.data.toList s.data.toList with ⟨h1, h2⟩ | ⟨i, h1, h2, h3, _⟩
  · constructor
    · intro h; unfold idx at h; omega
    · rintro ⟨i, hi, h⟩
      have := h2 i (by omega)
      rw [(hocc i hi).2 h] at this; cases this
  · have hr := Lib.index_room t.data.toList s.data.toList (by omega)
    rw [h1, e1, e2] at hr
    constructor
    · intro _; exact ⟨i, by omega, (hocc i (by omega)).1 h3⟩
    · intro _; unfold idx; omega
set_option maxHeartbeats 2000000 in
theorem w54 (s t : ByteArray) (hs : s.size ≤ 1099511627776) (ht : t.size ≤ 1099511627776) : PC 54 [.str s, .str t] (.bool (hasS s t)) := by
  intro h n
  refine go Tryz.func54 rfl (by kernel_rfl) (by kernel_rfl) (by simp [go_sem]) fun ho => ?_
  simp [go_sem]
  refine goloop 0 (α := Nat) (fun k => [(0, .str s), (1, .str t), (5, intE k)]) (fun _ => h) (fun k m => k ≤ t.size + 1 ∧ n ≤ m ∧ ∀ i, i < k → i + s.size ≤ t.size → (t.extract i (i + s.size)).toList ≠ s.toList) (fun k => t.size + 1 - k) 0 ⟨Nat.zero_le _, Nat.le_refl _, fun i h => by omega⟩ ?_ look_same ?_
  · simp [look, Fz.same]
  rintro k m ⟨hk, hm, hno⟩
  have w0 : IntKind.i64.wrap ((k : Int) + s.size) = ((k + s.size : Nat) : Int) := by rw [wr64] <;> omega
  have w1 : IntKind.i64.wrap ((k : Int) + 1) = ((k + 1 : Nat) : Int) := by rw [wr64] <;> omega
  by_cases hc : k + s.size ≤ t.size
  · have hc' : ((k + s.size : Nat) : Int) ≤ t.size := by omega
    have hc2 : (k : Int) ≤ ((k + s.size : Nat) : Int) := by omega
    have hc3 : (k : Int) ≤ t.size := by omega
    by_cases he : (t.extract k (k + s.size)).toList = s.toList
    · have hh : hasS s t = true := hasS_iff.2 ⟨k, hc, he⟩
      simp [go_sem, w0, hc', hc2, he, -Int.natCast_add]
      exact ret0 ho rfl (by rw [hh])
    · have he' : ((t.extract k (k + s.size)).toList == s.toList) = false := by simpa using he
      simp [go_sem, w0, w1, hc', hc2, he', -Int.natCast_add]
      exact ⟨k + 1, by omega, ⟨by omega, hm, fun i hi h2 => by
        by_cases e : i = k
        · subst e; exact he
        · exact hno i (by omega) h2⟩, rfl⟩
  · have hc' : ¬ ((k + s.size : Nat) : Int) ≤ t.size := by omega
    have hh : hasS s t = false := by
      cases hb : hasS s t with
      | false => rfl
      | true =>
        obtain ⟨i, h1, h2⟩ := hasS_iff.1 hb
        exact absurd h2 (hno i (by omega) h1)
    simp [go_sem, w0, hc', -Int.natCast_add]
    exact ret0 ho rfl (by rw [hh])
def inFl (d : Document) (s : ByteArray) : Bool := (idsOf d).any fun id => hasS s (textS (flowAt d id))
set_option maxHeartbeats 4000000 in
theorem w19 (d : Document) (s : ByteArray) (D : Dsz d) (hn : (docFlows d).length ≤ 1048576) (hs : s.size ≤ 1048576) (ht : ∀ id, (textB (flowAt d id)).length ≤ 536870912) : PC 19 [d.enc, .str s] (.bool (inFl d s)) := by
  intro h n
  refine go Tryz.func19 rfl (by kernel_rfl) (by kernel_rfl) (by simp [go_sem]) fun ho => ?_
  have keep1 : ∀ (a : Option SObj), ∀ o y, h o = some y → hset h n a o = some y := fun a => hset_old ho (Nat.le_refl _) look_same
  simp [go_sem, Document.enc, Head.flat, Settings.flat, hset_at]
  refine PC.use (by simpa [Document.enc, Head.flat, Settings.flat] using c39 d D.hl D.hs hn) ?_
  simp [go_sem]
  have hlen : (idsOf d).length ≤ 1048576 := by simpa [idsOf] using hn
  refine goloop 1 (α := Nat) (fun k => [(1, .str s), (2, .iptr (dcs d)), (5, .imm 1 ((idsOf d).map intE) false), (6, intE k)]) (fun _ => h) (fun k m => k ≤ (idsOf d).length ∧ n ≤ m ∧ ∀ i (hi : i < (idsOf d).length), i < k → hasS s (textS (flowAt d (idsOf d)[i])) = false) (fun k => (idsOf d).length - k) 0 ⟨Nat.zero_le _, by omega, fun i _ h => by omega⟩ ?_ (keep1 _) ?_
  · intro p hp
    simp only [List.mem_cons, List.not_mem_nil, or_false] at hp
    rcases hp with rfl | rfl | rfl | rfl
    · exact Fz.same
    · exact ptr_fz (fz_none ho n (Nat.le_refl _)) (by simp [hset_at, Head.flat, Settings.flat])
    · exact Fz.same
    · exact Fz.same
  rintro k m ⟨hk, hm, hno⟩
  by_cases hlt : k < (idsOf d).length
  · have w1 : IntKind.i64.wrap ((k : Int) + 1) = ((k + 1 : Nat) : Int) := by rw [wr64] <;> omega
    obtain ⟨id, hid⟩ : ∃ id, (idsOf d)[k] = id := ⟨_, rfl⟩
    simp [go_sem, hlt, hid, Head.flat, Settings.flat]
    repeat first | refine nd (by kernel_rfl) ?_ | refine sd (by kernel_rfl) ?_
    refine CallD.pure _ _ _ _ _ _ (by simpa [Document.enc, Head.flat, Settings.flat] using cFlow D id) ?_
    simp [go_sem]
    repeat first | refine nd (by kernel_rfl) ?_ | refine sd (by kernel_rfl) ?_
    refine (c23 (flowAt d id) (flowAt_ok D id).1 (by have := ht id; omega)).use ?_
    simp [go_sem]
    have hT : (textS (flowAt d id)).size = (textB (flowAt d id)).length := by simp [textS, ByteArray.size]
    refine (w54 s (textS (flowAt d id)) (by omega) (by have := ht id; omega)).use ?_
    cases hb : hasS s (textS (flowAt d id)) with
    | true =>
      have hh : inFl d s = true := List.any_eq_true.2 ⟨id, hid ▸ List.getElem_mem hlt, hb⟩
      simp [go_sem]
      exact ret0 ho rfl (by rw [hh])
    | false =>
      simp [go_sem, w1, -Int.natCast_add]
      exact ⟨k + 1, by omega, ⟨by omega, hm, fun i hi h => by
        by_cases e : i = k
        · subst e; rw [hid]; exact hb
        · exact hno i hi (by omega)⟩, Fz.same⟩
  · have hh : inFl d s = false := List.any_eq_false.2 fun x hx => by
      obtain ⟨i, hi, rfl⟩ := List.mem_iff_getElem.1 hx
      rw [hno i hi (by omega)]; simp
    simp [go_sem, hlt]
    exact ret0 ho rfl (by rw [hh])
section
variable {σ : Type} (R : Rwr σ) (it : Int → List Item → σ → List Item × σ)
def chIn (x : Item) (s : σ) : Item × σ :=
  let f := it 0 x.flow s
  let r := rwRows R it x.rows f.2
  (.mk x.kind x.code x.id x.text x.head f.1 r.1, r.2)
def chItem (q : List Item × σ) (x : Item) : List Item × σ :=
  let p := R.item x q.2
  if p.2.1 then
    let h := R.head p.1.head p.2.2
    let y := chIn R it (p.1.wHead h.1) h.2
    (q.1 ++ [y.1], y.2)
  else (q.1, p.2.2)
def chItems : Nat → Int → List Item → σ → List Item × σ
  | 0, _, _, s => ([], s)
  | N + 1, _, l, s => l.foldl (chItem R (chItems N)) ([], s)
end
section
variable {σ : Type} {R : Rwr σ} {it : Int → List Item → σ → List Item × σ} {rk : σ → Nat}
theorem chItem_len : ∀ (l : List Item) (q : List Item × σ), (l.foldl (chItem R it) q).1.length ≤ q.1.length + l.length
  | [], _ => Nat.le_refl _
  | c :: l, q => by
    rw [List.foldl_cons]
    have := chItem_len l (chItem R it q c)
    have h2 : (chItem R it q c).1.length ≤ q.1.length + 1 := by
      unfold chItem; dsimp only; split <;> simp
    rw [List.length_cons]; omega
theorem chIn_up (U : R.Up rk) (hi : ∀ id l s, rk s ≤ rk (it id l s).2) (x : Item) (s : σ) : rk s ≤ rk (chIn R it x s).2 :=
  Nat.le_trans (hi 0 x.flow s) (rwRows_up U hi _ _)
theorem chItem_up (U : R.Up rk) (hi : ∀ id l s, rk s ≤ rk (it id l s).2) (q : List Item × σ) (x : Item) : rk q.2 ≤ rk (chItem R it q x).2 := by
  unfold chItem; dsimp only; split
  · exact Nat.le_trans (Nat.le_trans (U.item _ _) (U.head _ _)) (chIn_up U hi _ _)
  · exact U.item _ _
theorem chItems_up (U : R.Up rk) : ∀ (N : Nat) (id : Int) (l : List Item) (s : σ), rk s ≤ rk (chItems R N id l s).2
  | 0, _, _, _ => Nat.le_refl _
  | N + 1, _, l, s => rk_fold (G := chItem R (chItems R N)) (chItem_up U (chItems_up U N)) l ([], s)
end
def trC18 : Tr := (.pure 0 (.pure 2 (.pure 3 (.pure 4 (.pure 5 (.pure 6 (.pure 8 (.pure 9 (.pure 10 (.pure 11 (.two 1 7 (.one 7 (.one 12 (.one 13 (.one 14 (.one 15 (.pure 16 (.one 17 .nil))))))) (.two 1 12 (.one 12 (.one 13 (.one 14 (.one 15 (.pure 16 (.one 17 .nil)))))) (.two 1 13 (.one 13 (.one 14 (.one 15 (.pure 16 (.one 17 .nil))))) (.two 1 14 (.one 14 (.one 15 (.pure 16 (.one 17 .nil)))) (.one 1 (.one 15 (.pure 16 (.one 17 .nil))))))))))))))))))
section
variable {σ : Type} {st : σ → Nat → Option SObj} {n0 : Nat} {gH gI : FuncId} {bH bI : List SV} {R : Rwr σ} {pf : Nat → List Item → Prop} {pi : Nat → Item → Prop} {hp : Head → Prop} {rk : σ → Nat} {top : Nat}
set_option maxHeartbeats 16000000 in
theorem d31 (C : RwC st n0 113 gH gI [] bH bI R pf pi hp rk top) (hid : ∀ id l s, R.flow id l s = (l, s))
    (hall : ∀ N x s, pi N x → (R.item x s).2.1 = true → pf N (R.item x s).1.flow ∧ (R.item x s).1.rows.length ≤ 1048576 ∧ ∀ r ∈ (R.item x s).1.rows, hp r.head ∧ r.cells.length ≤ 1048576 ∧ ∀ c ∈ r.cells, hp c.head ∧ pf N c.flow) :
    ∀ N id l s H n, pf N l → rk (chItems R N id l s).2 ≤ top → n0 ≤ n → hasU st s H → SCall Tryz.prog 31 [itemsE l, .fn (.func gI) [] bI, .fn (.func gH) [] bH] H n (fun v h' n' => v = itemsE (chItems R N id l s).1 ∧ h' = upS st (chItems R N id l s).2 H ∧ n' = n)
  | 0 => fun id l s H n h => (C.zero l h).elim
  | N + 1 => fun id l s H n hl ht hn hs => by
    have ih := d31 C hid hall N
    have iu := chItems_up C.up N
    have K := C.clo
    have hfo := C.flow_ok N id l s hl
    rw [hid] at hfo
    obtain ⟨hfl, hfi⟩ := hfo
    dsimp only at hfl hfi
    refine goS Tryz.func31 rfl (by kernel_rfl) (by kernel_rfl) (by simp [go_sem]) fun ho => ?_
    have hU : ∀ s', Old (upS st s' H) n := fun s' => K.old s' hn ho
    have hUb : ∀ s' j y, upS st s' H j = some y → j < n := fun s' j y e => (hU s' j y e).1
    have hHb : ∀ j y, H j = some y → j < n := fun j y e => (ho j y e).1
    obtain ⟨Q, hQ⟩ : ∃ Q : Nat → List Item × σ, ∀ i, Q i = (l.take i).foldl (chItem R (chItems R N)) ([], s) := ⟨_, fun _ => rfl⟩
    have hQ0 : Q 0 = ([], s) := by rw [hQ]; rfl
    have hQs : ∀ i x, (h : i < l.length) → l[i] = x → Q (i + 1) = chItem R (chItems R N) (Q i) x := fun i x h hx => by rw [hQ, hQ, foldl_take _ _ _ _ _ h hx]
    have hQl : Q l.length = chItems R (N + 1) id l s := by rw [hQ, List.take_length]; rfl
    have hQn : ∀ i, (Q i).1.length ≤ i := fun i => by rw [hQ]; have := chItem_len (R := R) (it := chItems R N) (l.take i) ([], s); simp at this; omega
    have hQt : ∀ i, rk (Q i).2 ≤ top := fun i => by
      rw [hQ]
      exact Nat.le_trans (rk_take (chItem_up C.up iu) _ _ i) ht
    clear hQ
    refine SP_mid 0 (α := Unit) (fun _ => [(0, itemsE l), (1, .fn (.func gI) [] bI), (2, .fn (.func gH) [] bH)]) (fun _ => upS st s H) (fun _ m => n = m) ?_ (fun _ m hm => ?_)
    · simp [go_sem, Fz.same, upS_self s H hs]
    subst hm
    refine SP_mid 0 (α := Unit) (fun _ => [(0, itemsE l), (1, .fn (.func gI) [] bI), (2, .fn (.func gH) [] bH), (7, .imm 0 [] true)]) (fun _ => upS st s H) (fun _ m => n = m) ?_ (fun _ m hm => ?_)
    · simp [go_sem, Fz.same]
    subst hm
    refine SP_midS 0 (α := Option Nat) (fun o => [(7, AccV 11 o ((Q l.length).1.map Item.enc))]) (fun o => AccH o ((Q l.length).1.map Item.enc) (upS st (Q l.length).2 H)) (fun o m => n ≤ m ∧ AccI n m 11 o ((Q l.length).1.map Item.enc)) ?_ (fun o m hm => ?_)
    · refine SP_mid 0 (α := Unit) (fun _ => [(0, itemsE l), (1, .fn (.func gI) [] bI), (2, .fn (.func gH) [] bH), (7, .imm 0 [] true), (8, intE 0)]) (fun _ => upS st s H) (fun _ m => n = m) ?_ (fun _ m hm => ?_)
      · simp [go_sem, Fz.same]
      subst hm
      refine SP_block (goloopS 0 (α := Nat × Option Nat) (fun q => [(0, itemsE l), (1, .fn (.func gI) [] bI), (2, .fn (.func gH) [] bH), (7, AccV 11 q.2 ((Q q.1).1.map Item.enc)), (8, intE q.1)])
        (fun q => AccH q.2 ((Q q.1).1.map Item.enc) (upS st (Q q.1).2 H)) (fun q m => q.1 ≤ l.length ∧ n ≤ m ∧ AccI n m 11 q.2 ((Q q.1).1.map Item.enc)) (fun q => l.length - q.1) (0, none) ⟨Nat.zero_le _, Nat.le_refl _, by simp only [hQ0]; exact AccI.nil _ _ _⟩ ?_ ?_ ?_)
      · simp [go_sem, look, AccV, Fz.same]
      · simp only [hQ0]; exact look_same
      rintro ⟨i, o⟩ m1 ⟨hi, hm1, hA⟩
      dsimp only at hi hm1 hA ⊢
      have hEn : ((Q i).1.map Item.enc).length ≤ i := by rw [List.length_map]; exact hQn i
      by_cases hlt : i < l.length
      · have w1 : IntKind.i64.wrap ((i : Int) + 1) = ((i + 1 : Nat) : Int) := by rw [wr64] <;> omega
        obtain ⟨x, hx⟩ : ∃ x, l[i] = x := ⟨_, rfl⟩
        have hpi : pi N x := hfi x (hx ▸ List.getElem_mem hlt)
        have hst := hQs i x hlt hx
        have htop := hQt (i + 1)
        generalize hSi : (Q i).2 = si at hst
        generalize hEi : (Q i).1.map Item.enc = E at hA hEn ⊢
        have hXb : ∀ s' j y, AccH o E (upS st s' H) j = some y → j < m1 := fun s' => acc_lt (hUb s') hm1 hA
        refine SP_mid 0 (α := Unit) (fun _ => [(0, itemsE l), (1, .fn (.func gI) [] bI), (2, .fn (.func gH) [] bH), (7, AccV 11 o E), (8, intE i)]) (fun _ => AccH o E (upS st si H)) (fun _ m2 => m1 = m2) ?_ (fun _ m2 hm2 => ?_)
        · simp [go_sem, Fz.same, hlt]
        subst hm2
        refine SP_midS 0 (α := Option Nat) (fun o => [(0, itemsE l), (1, .fn (.func gI) [] bI), (2, .fn (.func gH) [] bH), (7, AccV 11 o ((Q (i + 1)).1.map Item.enc)), (8, intE i)]) (fun o => AccH o ((Q (i + 1)).1.map Item.enc) (upS st (Q (i + 1)).2 H)) (fun o m => n ≤ m ∧ AccI n m 11 o ((Q (i + 1)).1.map Item.enc)) ?_ (fun o m hm => ?_)
        · refine SP_block ?_
          have hci := C.item N x si (AccH o E (upS st si H)) m1 hpi (by
            rw [hst] at htop
            refine Nat.le_trans ?_ htop
            unfold chItem; rw [hSi]; dsimp only; split
            · exact Nat.le_trans (C.up.head _ _) (chIn_up C.up iu _ _)
            · exact Nat.le_refl _) (by omega) (K.has hn hA has_up)
          have hok := C.item_ok N x si hpi
          have hal := hall N x si hpi
          rw [K.acc hn hA, K.up2] at hci
          have hst' : Q (i + 1) = if (R.item x si).2.1 = true then ((Q i).1 ++ [(chIn R (chItems R N) ((R.item x si).1.wHead (R.head (R.item x si).1.head (R.item x si).2.2).1) (R.head (R.item x si).1.head (R.item x si).2.2).2).1], (chIn R (chItems R N) ((R.item x si).1.wHead (R.head (R.item x si).1.head (R.item x si).2.2).1) (R.head (R.item x si).1.head (R.item x si).2.2).2).2) else ((Q i).1, (R.item x si).2.2) := by rw [hst, chItem, hSi]
          clear hst hSi
          rcases hf : R.item x si with ⟨x1, k, s2⟩
          rw [hf] at hci hst' hok hal
          dsimp only at hci hst' hok hal
          refine SP_mid 0 (α := Unit) (fun _ => [(0, itemsE l), (1, .fn (.func gI) [] bI), (2, .fn (.func gH) [] bH), (7, AccV 11 o E), (8, intE i), (9, .ptr m1 0), (10, .bool k)]) (fun _ => hset (AccH o E (upS st s2 H)) m1 (some (.cells [intE x1.kind, intE x1.code, intE x1.id, .str x1.text, propsE x1.head.props, intE x1.head.ins, intE x1.head.move, delsE x1.head.dels, layersE x1.head.layers, itemsE x1.flow, rowsE x1.rows]))) (fun _ m3 => m1 + 1 = m3) ?_ (fun _ m3 hm3 => ?_)
          · rw [Item.enc_eq, Item.enc_eq] at hci
            simp [go_sem, hlt, hx, Item.enc_eq]
            refine SC.use (by simpa using hci) ?_
            rintro v H' n' ⟨rfl, rfl, rfl⟩
            simp [go_sem, Fz.same, hset_at, hset_two]
          subst hm3
          cases k with
          | false =>
            have hst3 : Q (i + 1) = ((Q i).1, s2) := by simpa using hst'
            simp only [hst3, hEi]
            refine SP_of ?_
            simp [go_sem, Fz.same]
            exact ⟨o, ⟨by omega, hA.mono (by omega)⟩, rfl, set_keep (hXb _) look_same⟩
          | true =>
            rw [if_pos rfl] at hst'
            have hst3 := hst'
            have hk1 := (hok rfl).1
            obtain ⟨hkf, hkr1, hkr2⟩ := hal rfl
            rcases hh : R.head x1.head s2 with ⟨h3, s3⟩
            rw [hh] at hst3
            dsimp only at hst3
            obtain ⟨y, hy⟩ : ∃ y, y = x1.wHead h3 := ⟨_, rfl⟩
            rw [← hy] at hst3
            have hit3 : rk (chIn R (chItems R N) y s3).2 ≤ top := by have := htop; rwa [hst3] at this
            have ht3 : rk s3 ≤ top := Nat.le_trans (chIn_up C.up iu y s3) hit3
            have hB0 : ∀ (s : σ) (z : SObj), hset (AccH o E (upS st s H)) m1 (some z) = upS st s (hset (AccH o E H) m1 (some z)) := fun s z => by rw [← K.acc hn hA, K.hset _ _ (by omega)]
            refine SP_mid 0 (α := Unit) (fun _ => [(0, itemsE l), (1, .fn (.func gI) [] bI), (2, .fn (.func gH) [] bH), (7, AccV 11 o E), (8, intE i), (9, .ptr m1 0)]) (fun _ => hset (AccH o E (upS st s2 H)) m1 (some (.cells [intE x1.kind, intE x1.code, intE x1.id, .str x1.text, propsE x1.head.props, intE x1.head.ins, intE x1.head.move, delsE x1.head.dels, layersE x1.head.layers, itemsE x1.flow, rowsE x1.rows]))) (fun _ m3 => m1 + 1 = m3) ?_ (fun _ m3 hm3 => ?_)
            · simp [go_sem, Fz.same]
            subst hm3
            have hch := C.head x1.head s2 (hset (AccH o E (upS st s2 H)) m1 (some (.cells [intE x1.kind, intE x1.code, intE x1.id, .str x1.text, propsE x1.head.props, intE x1.head.ins, intE x1.head.move, delsE x1.head.dels, layersE x1.head.layers, itemsE x1.flow, rowsE x1.rows]))) (m1 + 1) hk1 (by rw [hh]; exact ht3) (by omega) (by rw [hB0]; exact has_up)
            rw [hh, hB0, K.up2, ← hB0 s2, ← hB0 s3] at hch
            dsimp only at hch
            refine SP_mid 0 (α := Unit) (fun _ => [(0, itemsE l), (1, .fn (.func gI) [] bI), (2, .fn (.func gH) [] bH), (7, AccV 11 o E), (8, intE i), (9, .ptr m1 0)]) (fun _ => hset (AccH o E (upS st s3 H)) m1 (some (.cells [intE y.kind, intE y.code, intE y.id, .str y.text, propsE y.head.props, intE y.head.ins, intE y.head.move, delsE y.head.dels, layersE y.head.layers, itemsE y.flow, rowsE y.rows]))) (fun _ m3 => m1 + 1 = m3) ?_ (fun _ m3 hm3 => ?_)
            · simp [go_sem, hset_at]
              refine SC.use (by simpa [Head.enc, Head.flat] using hch) ?_
              rintro v H' n' ⟨rfl, rfl, rfl⟩
              simp [go_sem, Fz.same, hset_at, hset_two, hy, Item.wHead, Item.kind, Item.code, Item.id, Item.text, Item.head, Item.flow, Item.rows]
            subst hm3
            have hyk : y.flow = x1.flow ∧ y.rows = x1.rows := by rw [hy]; cases x1; exact ⟨rfl, rfl⟩
            obtain ⟨y2, y3⟩ := hyk
            rw [← y2] at hkf
            rw [← y3] at hkr1 hkr2
            clear hch hh hst' hf hci hok hal
            have hcf := ih 0 y.flow s3 (hset (AccH o E (upS st s3 H)) m1 (some (.cells [intE y.kind, intE y.code, intE y.id, .str y.text, propsE y.head.props, intE y.head.ins, intE y.head.move, delsE y.head.dels, layersE y.head.layers, itemsE y.flow, rowsE y.rows]))) (m1 + 1) hkf (Nat.le_trans (rwRows_up C.up iu y.rows _) hit3) (by omega) (by rw [hB0]; exact has_up)
            rcases hf5 : chItems R N 0 y.flow s3 with ⟨l5, s5⟩
            rw [hf5, hB0, K.up2, ← hB0 s3, ← hB0 s5] at hcf
            dsimp only at hcf
            have hci5 : chIn R (chItems R N) y s3 = (.mk y.kind y.code y.id y.text y.head l5 (rwRows R (chItems R N) y.rows s5).1, (rwRows R (chItems R N) y.rows s5).2) := by unfold chIn; rw [hf5]
            rw [hci5] at hit3 hst3
            dsimp only at hit3 hst3
            refine SP_mid 0 (α := Unit) (fun _ => [(0, itemsE l), (1, .fn (.func gI) [] bI), (2, .fn (.func gH) [] bH), (7, AccV 11 o E), (8, intE i), (9, .ptr m1 0)]) (fun _ => hset (AccH o E (upS st s5 H)) m1 (some (.cells [intE y.kind, intE y.code, intE y.id, .str y.text, propsE y.head.props, intE y.head.ins, intE y.head.move, delsE y.head.dels, layersE y.head.layers, itemsE l5, rowsE y.rows]))) (fun _ m3 => m1 + 1 = m3) ?_ (fun _ m3 hm3 => ?_)
            · simp [go_sem, hset_at]
              refine SC.use hcf ?_
              rintro v H' n' ⟨rfl, rfl, rfl⟩
              simp [go_sem, Fz.same, hset_at, hset_two]
            subst hm3
            clear hcf
            obtain ⟨B, hB⟩ : ∃ B : Hp, B = hset (AccH o E H) m1 (some (.cells [intE y.kind, intE y.code, intE y.id, .str y.text, propsE y.head.props, intE y.head.ins, intE y.head.move, delsE y.head.dels, layersE y.head.layers, itemsE l5, rowsE y.rows])) := ⟨_, rfl⟩
            have hBs : ∀ s, hset (AccH o E (upS st s H)) m1 (some (.cells [intE y.kind, intE y.code, intE y.id, .str y.text, propsE y.head.props, intE y.head.ins, intE y.head.move, delsE y.head.dels, layersE y.head.layers, itemsE l5, rowsE y.rows])) = upS st s B := fun s => by rw [hB0, hB]
            have hBb : ∀ s' j z, upS st s' B j = some z → j < m1 + 1 := fun s' => K.ltU (by omega) (fun j z e => by
              rw [hB] at e
              by_cases e1 : j = m1
              · omega
              · rw [hset_ne _ _ e1] at e; have := acc_lt hHb hm1 hA j z e; omega) s'
            have hk9 : ∀ s, upS st s B m1 = some (.cells [intE y.kind, intE y.code, intE y.id, .str y.text, propsE y.head.props, intE y.head.ins, intE y.head.move, delsE y.head.dels, layersE y.head.layers, itemsE l5, rowsE y.rows]) := fun s => by rw [← hBs, hset_at]
            rw [hBs]
            obtain ⟨Rr, hRr⟩ : ∃ Rr : Nat → List Row × σ, ∀ i, Rr i = (y.rows.take i).foldl (rwRow R (chItems R N)) ([], s5) := ⟨_, fun _ => rfl⟩
            have hRr0 : Rr 0 = ([], s5) := by rw [hRr]; rfl
            have hRrs : ∀ i r, (h : i < y.rows.length) → y.rows[i] = r → Rr (i + 1) = rwRow R (chItems R N) (Rr i) r := fun i x h hx => by rw [hRr, hRr, foldl_take _ _ _ _ _ h hx]
            have hRrl : Rr y.rows.length = rwRows R (chItems R N) y.rows s5 := by rw [hRr, List.take_length]; rfl
            have hRrn : ∀ i, (Rr i).1.length ≤ i := fun i => by rw [hRr]; have := rwRows_len (R := R) (it := chItems R N) (y.rows.take i) ([], s5); simp at this; omega
            have hRrt : ∀ i, rk (Rr i).2 ≤ top := fun i => by rw [hRr]; exact Nat.le_trans (rk_take (rwRow_up C.up iu) _ _ i) hit3
            clear hRr
            simp only [hst3, List.map_append, hEi, List.map_cons, List.map_nil]
            refine SP_mid 0 (α := Unit) (fun _ => [(0, itemsE l), (1, .fn (.func gI) [] bI), (2, .fn (.func gH) [] bH), (7, AccV 11 o E), (8, intE i), (9, .ptr m1 0), (11, .imm 0 [] true)]) (fun _ => upS st s5 B) (fun _ m3 => m1 + 1 = m3) ?_ (fun _ m3 hm3 => ?_)
            · simp [go_sem, Fz.same]
            subst hm3
            refine SP_midS 1 (α := Unit) (fun _ => [(0, itemsE l), (1, .fn (.func gI) [] bI), (2, .fn (.func gH) [] bH), (7, AccV 11 o E), (8, intE i), (9, .ptr m1 0), (11, rowsE (Rr y.rows.length).1)]) (fun _ => upS st (Rr y.rows.length).2 B) (fun _ m3 => m1 + 1 ≤ m3) ?_ (fun _ m3 hm3 => ?_)
            · refine SP_mid 0 (α := Unit) (fun _ => [(0, itemsE l), (1, .fn (.func gI) [] bI), (2, .fn (.func gH) [] bH), (7, AccV 11 o E), (8, intE i), (9, .ptr m1 0), (11, .imm 0 [] true), (12, intE 0)]) (fun _ => upS st s5 B) (fun _ m3 => m1 + 1 = m3) ?_ (fun _ m3 hm3 => ?_)
              · simp [go_sem, Fz.same]
              subst hm3
              refine SP_block (goloopS 0 (α := Nat × Option Nat) (fun q => [(0, itemsE l), (1, .fn (.func gI) [] bI), (2, .fn (.func gH) [] bH), (7, AccV 11 o E), (8, intE i), (9, .ptr m1 0), (11, AccV 6 q.2 ((Rr q.1).1.map Row.enc)), (12, intE q.1)])
                (fun q => AccH q.2 ((Rr q.1).1.map Row.enc) (upS st (Rr q.1).2 B)) (fun q m => q.1 ≤ y.rows.length ∧ m1 + 1 ≤ m ∧ AccI (m1 + 1) m 6 q.2 ((Rr q.1).1.map Row.enc)) (fun q => y.rows.length - q.1) (0, none) ⟨Nat.zero_le _, Nat.le_refl _, by simp only [hRr0]; exact AccI.nil _ _ _⟩ ?_ ?_ ?_)
              · simp [go_sem, look, AccV, Fz.same]
              · simp only [hRr0]; exact look_same
              rintro ⟨a, o2⟩ m3 ⟨ha, hm3, hA2⟩
              dsimp only at ha hm3 hA2 ⊢
              have hGn : ((Rr a).1.map Row.enc).length ≤ a := by rw [List.length_map]; exact hRrn a
              have hGk : ∀ s (G : List SV), AccI (m1 + 1) m3 6 o2 G → AccH o2 G (upS st s B) m1 = some (.cells [intE y.kind, intE y.code, intE y.id, .str y.text, propsE y.head.props, intE y.head.ins, intE y.head.move, delsE y.head.dels, layersE y.head.layers, itemsE l5, rowsE y.rows]) := fun s G hA2 => by
                rw [← hk9 s]
                cases o2 with
                | none => rfl
                | some j => have := (hA2.lt j rfl).1; simp only [AccH]; rw [hset_ne _ _ (by omega)]
              by_cases halt : a < y.rows.length
              · have w2 : IntKind.i64.wrap ((a : Int) + 1) = ((a + 1 : Nat) : Int) := by rw [wr64] <;> omega
                obtain ⟨r, hr⟩ : ∃ r, y.rows[a] = r := ⟨_, rfl⟩
                obtain ⟨g1, g2, g3⟩ := hkr2 r (hr ▸ List.getElem_mem halt)
                have hrst := hRrs a r halt hr
                have hrtop := hRrt (a + 1)
                generalize hSr : (Rr a).2 = sr at hrst
                generalize hGi : (Rr a).1.map Row.enc = G at hA2 hGn ⊢
                have hGb : ∀ s' j z, AccH o2 G (upS st s' B) j = some z → j < m3 := fun s' => acc_lt (hBb s') hm3 hA2
                have hGk := fun s => hGk s G hA2
                refine SP_mid 0 (α := Unit) (fun _ => [(0, itemsE l), (1, .fn (.func gI) [] bI), (2, .fn (.func gH) [] bH), (7, AccV 11 o E), (8, intE i), (9, .ptr m1 0), (11, AccV 6 o2 G), (12, intE a)]) (fun _ => AccH o2 G (upS st sr B)) (fun _ m' => m3 = m') ?_ (fun _ m' hm' => ?_)
                · simp [go_sem, Fz.same, hGk, halt]
                subst hm'
                refine SP_midS 0 (α := Option Nat) (fun o2 => [(0, itemsE l), (1, .fn (.func gI) [] bI), (2, .fn (.func gH) [] bH), (7, AccV 11 o E), (8, intE i), (9, .ptr m1 0), (11, AccV 6 o2 ((Rr (a + 1)).1.map Row.enc)), (12, intE a)]) (fun o2 => AccH o2 ((Rr (a + 1)).1.map Row.enc) (upS st (Rr (a + 1)).2 B)) (fun o2 m => m1 + 1 ≤ m ∧ AccI (m1 + 1) m 6 o2 ((Rr (a + 1)).1.map Row.enc)) ?_ (fun o2 m hm => ?_)
                · refine SP_block ?_
                  rw [rwRow, hSr] at hrst
                  rcases hh : R.head r.head sr with ⟨h4, sr1⟩
                  rw [hh] at hrst
                  dsimp only at hrst
                  rw [hrst] at hrtop
                  dsimp only at hrtop
                  have hct1 : rk sr1 ≤ top := Nat.le_trans (rwCells_up C.up iu r.cells sr1) hrtop
                  have hch := C.head r.head sr (AccH o2 G (upS st sr B)) m3 g1 (by rw [hh]; exact hct1) (by omega) (K.has (by omega) hA2 has_up)
                  rw [hh, K.acc (by omega) hA2, K.up2] at hch
                  dsimp only at hch
                  refine SP_mid 0 (α := Unit) (fun _ => [(0, itemsE l), (1, .fn (.func gI) [] bI), (2, .fn (.func gH) [] bH), (7, AccV 11 o E), (8, intE i), (9, .ptr m1 0), (11, AccV 6 o2 G), (12, intE a), (13, .ptr m3 0)]) (fun _ => hset (AccH o2 G (upS st sr1 B)) m3 (some (.cells (h4.flat ++ [.imm 0 [] true])))) (fun _ m5 => m3 + 1 = m5) ?_ (fun _ m5 hm5 => ?_)
                  · simp [go_sem, Head.flat, hGk, halt, hr, Row.enc_eq]
                    refine SC.use (by simpa [Head.enc, Head.flat] using hch) ?_
                    rintro v H' n' ⟨rfl, rfl, rfl⟩
                    simp [go_sem, Fz.same, hset_at, hset_two]
                  subst hm5
                  clear hch hh
                  obtain ⟨B1, hB1⟩ : ∃ B1 : Hp, B1 = AccH o2 G B := ⟨_, rfl⟩
                  have hB1s : ∀ s, AccH o2 G (upS st s B) = upS st s B1 := fun s => by rw [hB1, K.acc (by omega) hA2]
                  have hB1b : ∀ s' j z, upS st s' B1 j = some z → j < m3 := fun s' j z e => hGb s' j z (by rw [hB1s]; exact e)
                  have hB1k : ∀ s, upS st s B1 m1 = some (.cells [intE y.kind, intE y.code, intE y.id, .str y.text, propsE y.head.props, intE y.head.ins, intE y.head.move, delsE y.head.dels, layersE y.head.layers, itemsE l5, rowsE y.rows]) := fun s => by rw [← hB1s]; exact hGk s
                  obtain ⟨Rc, hRc⟩ : ∃ Rc : Nat → List Cell × σ, ∀ i, Rc i = (r.cells.take i).foldl (rwCell R (chItems R N)) ([], sr1) := ⟨_, fun _ => rfl⟩
                  have hRc0 : Rc 0 = ([], sr1) := by rw [hRc]; rfl
                  have hRcs : ∀ i c, (h : i < r.cells.length) → r.cells[i] = c → Rc (i + 1) = rwCell R (chItems R N) (Rc i) c := fun i x h hx => by rw [hRc, hRc, foldl_take _ _ _ _ _ h hx]
                  have hRcl : Rc r.cells.length = rwCells R (chItems R N) r.cells sr1 := by rw [hRc, List.take_length]; rfl
                  have hRcn : ∀ i, (Rc i).1.length ≤ i := fun i => by rw [hRc]; have := rwCells_len (R := R) (it := chItems R N) (r.cells.take i) ([], sr1); simp at this; omega
                  have hRct : ∀ i, rk (Rc i).2 ≤ top := fun i => by rw [hRc]; exact Nat.le_trans (rk_take (rwCell_up C.up iu) _ _ i) hrtop
                  clear hRc
                  rw [← hRcl] at hrst
                  refine SP_midS 3 (α := Unit) (fun _ => [(0, itemsE l), (1, .fn (.func gI) [] bI), (2, .fn (.func gH) [] bH), (7, AccV 11 o E), (8, intE i), (9, .ptr m1 0), (11, AccV 6 o2 G), (12, intE a), (13, .iptr (h4.flat ++ [cellsE (Rc r.cells.length).1]))]) (fun _ => AccH o2 G (upS st (Rc r.cells.length).2 B)) (fun _ m5 => m3 + 1 ≤ m5) ?_ (fun _ m5 hm5 => ?_)
                  · refine SP_mid 0 (α := Unit) (fun _ => [(0, itemsE l), (1, .fn (.func gI) [] bI), (2, .fn (.func gH) [] bH), (7, AccV 11 o E), (8, intE i), (9, .ptr m1 0), (11, AccV 6 o2 G), (12, intE a), (13, .ptr m3 0), (14, intE 0)]) (fun _ => hset (AccH o2 G (upS st sr1 B)) m3 (some (.cells (h4.flat ++ [.imm 0 [] true])))) (fun _ m5 => m3 + 1 = m5) ?_ (fun _ m5 hm5 => ?_)
                    · simp [go_sem, Fz.same]
                    subst hm5
                    rw [hB1s]
                    refine SP_block (goloopS 0 (α := Nat × Option Nat) (fun q => [(0, itemsE l), (1, .fn (.func gI) [] bI), (2, .fn (.func gH) [] bH), (7, AccV 11 o E), (8, intE i), (9, .ptr m1 0), (11, AccV 6 o2 G), (12, intE a), (13, .ptr m3 0), (14, intE q.1)])
                      (fun q => AccH q.2 ((Rc q.1).1.map Cell.enc) (hset (upS st (Rc q.1).2 B1) m3 (some (.cells (h4.flat ++ [AccV 7 q.2 ((Rc q.1).1.map Cell.enc)]))))) (fun q m => q.1 ≤ r.cells.length ∧ m3 + 1 ≤ m ∧ AccI (m3 + 1) m 7 q.2 ((Rc q.1).1.map Cell.enc)) (fun q => r.cells.length - q.1) (0, none) ⟨Nat.zero_le _, Nat.le_refl _, by simp only [hRc0]; exact AccI.nil _ _ _⟩ ?_ ?_ ?_)
                    · simp [go_sem, look, Fz.same]
                    · simp only [hRc0, hB1s]; exact look_same
                    rintro ⟨b, o3⟩ m5 ⟨hb, hm5, hA3⟩
                    dsimp only at hb hm5 hA3 ⊢
                    have hDn : ((Rc b).1.map Cell.enc).length ≤ b := by rw [List.length_map]; exact hRcn b
                    have hYb : ∀ s' z, ∀ j w, hset (upS st s' B1) m3 z j = some w → j < m3 + 1 := fun s' z j w e => by
                      by_cases e1 : j = m3
                      · omega
                      · rw [hset_ne _ _ e1] at e; have := hB1b s' j w e; omega
                    have hYk : ∀ s (D : List SV) (z : Option SObj), AccI (m3 + 1) m5 7 o3 D → AccH o3 D (hset (upS st s B1) m3 z) m1 = some (.cells [intE y.kind, intE y.code, intE y.id, .str y.text, propsE y.head.props, intE y.head.ins, intE y.head.move, delsE y.head.dels, layersE y.head.layers, itemsE l5, rowsE y.rows]) := fun s D z hA3 => by
                      rw [← hB1k s]
                      cases o3 with
                      | none => exact hset_ne _ _ (by omega)
                      | some j => have := (hA3.lt j rfl).1; simp only [AccH]; rw [hset_ne _ _ (by omega), hset_ne _ _ (by omega)]
                    by_cases hblt : b < r.cells.length
                    · have w3 : IntKind.i64.wrap ((b : Int) + 1) = ((b + 1 : Nat) : Int) := by rw [wr64] <;> omega
                      obtain ⟨c, hc⟩ : ∃ c, r.cells[b] = c := ⟨_, rfl⟩
                      obtain ⟨c1, c2⟩ := g3 c (hc ▸ List.getElem_mem hblt)
                      have hcst := hRcs b c hblt hc
                      have hctop := hRct (b + 1)
                      generalize hSc : (Rc b).2 = sc at hcst
                      generalize hCi : (Rc b).1.map Cell.enc = D at hA3 hDn ⊢
                      have hYk := fun s z => hYk s D z hA3
                      have hZb : ∀ s' z, ∀ j w, AccH o3 D (hset (upS st s' B1) m3 z) j = some w → j < m5 := fun s' z => acc_lt (hYb s' z) hm5 hA3
                      refine SP_mid 0 (α := Unit) (fun _ => [(0, itemsE l), (1, .fn (.func gI) [] bI), (2, .fn (.func gH) [] bH), (7, AccV 11 o E), (8, intE i), (9, .ptr m1 0), (11, AccV 6 o2 G), (12, intE a), (13, .ptr m3 0), (14, intE b)]) (fun _ => AccH o3 D (hset (upS st sc B1) m3 (some (.cells (h4.flat ++ [AccV 7 o3 D]))))) (fun _ m' => m5 = m') ?_ (fun _ m' hm' => ?_)
                      · simp [go_sem, Fz.same, hYk, halt, hr, Row.enc_eq, hblt]
                      subst hm'
                      refine SP_midS 0 (α := Option Nat) (fun _ => [(0, itemsE l), (1, .fn (.func gI) [] bI), (2, .fn (.func gH) [] bH), (7, AccV 11 o E), (8, intE i), (9, .ptr m1 0), (11, AccV 6 o2 G), (12, intE a), (13, .ptr m3 0), (14, intE b)]) (fun o3 => AccH o3 ((Rc (b + 1)).1.map Cell.enc) (hset (upS st (Rc (b + 1)).2 B1) m3 (some (.cells (h4.flat ++ [AccV 7 o3 ((Rc (b + 1)).1.map Cell.enc)]))))) (fun o3 m => m3 + 1 ≤ m ∧ AccI (m3 + 1) m 7 o3 ((Rc (b + 1)).1.map Cell.enc)) ?_ (fun o3 m hm => ?_)
                      · refine SP_block ?_
                        refine SP_mid 1 (α := Unit) (fun _ => [(0, itemsE l), (1, .fn (.func gI) [] bI), (2, .fn (.func gH) [] bH), (7, AccV 11 o E), (8, intE i), (9, .ptr m1 0), (11, AccV 6 o2 G), (12, intE a), (13, .ptr m3 0), (14, intE b), (15, .iptr ([intE c.id] ++ c.head.flat ++ [itemsE c.flow]))]) (fun _ => AccH o3 D (hset (upS st sc B1) m3 (some (.cells (h4.flat ++ [AccV 7 o3 D]))))) (fun _ m6 => m5 ≤ m6) ?_ (fun _ m6 hm6 => ?_)
                        · simp [go_sem, Fz.same, hYk, halt, hr, Row.enc_eq, hblt, hc, Cell.enc_eq, Head.flat, hset_at]
                          refine ⟨ptr_fz (lt_none (hZb _ _) (Nat.le_refl m5)) (hset_at _ _ _), set_keep (hZb _ _) (set_keep (hZb _ _) look_same)⟩
                        rw [rwCell, hSc] at hcst
                        rcases hh : R.head c.head sc with ⟨h5, sc1⟩
                        rw [hh] at hcst
                        dsimp only at hcst
                        rcases hi5 : chItems R N c.id c.flow sc1 with ⟨q5, sc2⟩
                        rw [hi5] at hcst
                        dsimp only at hcst
                        rw [hcst] at hctop
                        dsimp only at hctop
                        have hct1 : rk sc1 ≤ top := by have := iu c.id c.flow sc1; rw [hi5] at this; exact Nat.le_trans this hctop
                        obtain ⟨B2, hB2⟩ : ∃ B2 : Hp, B2 = AccH o3 D (hset B1 m3 (some (.cells (h4.flat ++ [AccV 7 o3 D])))) := ⟨_, rfl⟩
                        have hB2s : ∀ s, AccH o3 D (hset (upS st s B1) m3 (some (.cells (h4.flat ++ [AccV 7 o3 D])))) = upS st s B2 := fun s => by rw [hB2, K.hset _ _ (by omega), ← K.acc (by omega) hA3]
                        have hch := C.head c.head sc (upS st sc B2) m6 c1 (by rw [hh]; exact hct1) (by omega) has_up
                        rw [hh, K.up2] at hch
                        dsimp only at hch
                        have hcf := ih c.id c.flow sc1 (upS st sc1 B2) m6 c2 (by rw [hi5]; exact hctop) (by omega) has_up
                        rw [hi5, K.up2] at hcf
                        dsimp only at hcf
                        have hk4 : ∀ s, upS st s B2 m3 = some (.cells (h4.flat ++ [AccV 7 o3 D])) := fun s => by
                          rw [← hB2s]
                          cases o3 with
                          | none => exact hset_at _ _ _
                          | some j => have := (hA3.lt j rfl).1; simp only [AccH]; rw [hset_ne _ _ (by omega), hset_at]
                        have h46 : m3 ≠ m6 := by omega
                        have h47 : m3 ≠ m6 + 1 := by omega
                        rw [hB2s]
                        rw [hcst]
                        simp only [List.map_append, hCi, List.map_cons, List.map_nil]
                        obtain ⟨out, ho1, ho2, ho3, ho4, ho5, ho6⟩ := app1_out (X := hset (upS st sc2 B2) m6 (some (.cells (Cell.mk c.id h5 q5).enc.cells))) (h := hset (upS st sc2 B1) m3 (some (.cells (h4.flat ++ [AccV 7 o3 D])))) (k := m6) (p := m6 + 1) (t := 169) (t2 := 169) (el := 173) (z := 7) (e := (Cell.mk c.id h5 q5).enc) (by simp [go_sem]) (by simp [go_sem]) (by simp [go_sem]) (by simp) (by simp [go_sem]) (by simp [go_sem]) (by simp [go_sem]) (by omega) hA3 (Cell.E.st _) (Cell.E.len _) (hset_at _ _ _)
                          (fun j w e => by
                            have := hZb sc2 _ j w e
                            rw [hset_ne _ _ (by omega), ← hB2s]; exact e) (hYb _ _) (by omega) (by omega)
                        have hkA : Out.app (hset (upS st sc2 B2) m6 (some (.cells (Cell.mk c.id h5 q5).enc.cells))) (m6 + 1) out m3 = some (.cells (h4.flat ++ [AccV 7 o3 D])) := by
                          rw [ho6 m3 h47 (fun e => by have := (hA3.lt m3 e).1; omega), hset_ne _ _ h46, hk4]
                        have fin := acc_box (bn := some (.cells (h4.flat ++ [AccV 7 (some (m6 + 1)) (D ++ [(Cell.mk c.id h5 q5).enc])]))) (show m6 + 1 ≠ m3 by omega) ho5
                        have hce : (Cell.mk c.id h5 q5).enc.cells = [intE c.id, propsE h5.props, intE h5.ins, intE h5.move, delsE h5.dels, layersE h5.layers, itemsE q5] := by rw [Cell.enc_eq]; rfl
                        have hvv : AccV 7 (some (m6 + 1)) (D ++ [(Cell.mk c.id h5 q5).enc]) = .sl (m6 + 1) 0 7 (D.length + 1) false := by simp [AccV]
                        rw [hvv] at fin
                        simp only [Out.app, hce, Head.flat, List.cons_append, List.nil_append] at hkA fin ho1
                        refine SP_tr trC18 rfl (by kernel_rfl) (by kernel_rfl) ?_
                        simp [go_sem, trC18, hk4, Head.flat]
                        refine ⟨?_, ?_⟩
                        · refine SC.use (by simpa [Head.enc, Head.flat] using hch) ?_
                          rintro v H' n' ⟨rfl, rfl, rfl⟩
                          simp [go_sem]
                          refine SC.use hcf ?_
                          rintro v H' n' ⟨rfl, rfl, rfl⟩
                          simp [go_sem]
                          rw [ho1]
                          simp [go_sem, hkA, ho2, ho3]
                          exact ⟨some (n' + 1), ⟨by omega, ho4⟩, by rw [hvv]; exact fin⟩
                        · refine SC.use (by simpa [Head.enc, Head.flat] using hch) ?_
                          rintro v H' n' ⟨rfl, rfl, rfl⟩
                          simp [go_sem, Head.flat, hk4]
                          refine ⟨?_, ?_⟩
                          · refine SC.use hcf ?_
                            rintro v H' n' ⟨rfl, rfl, rfl⟩
                            simp [go_sem]
                            rw [ho1]
                            simp [go_sem, hkA, ho2, ho3]
                            exact ⟨some (n' + 1), ⟨by omega, ho4⟩, by rw [hvv]; exact fin⟩
                          · refine SC.use hcf ?_
                            rintro v H' n' ⟨rfl, rfl, rfl⟩
                            simp [go_sem, Head.flat, hk4, hset_ne _ _ h46]
                            rw [ho1]
                            simp [go_sem, hkA, ho2, ho3]
                            exact ⟨some (n' + 1), ⟨by omega, ho4⟩, by rw [hvv]; exact fin⟩
                      · refine SP_of ?_
                        simp [go_sem, w3, Fz.same, -Int.natCast_add]
                        exact ⟨b + 1, by omega, o3, ⟨by omega, hm.1, hm.2⟩, rfl, look_same⟩
                    · have hbe : b = r.cells.length := by omega
                      subst hbe
                      refine SP_of ?_
                      simp [go_sem, Fz.same, hYk _ _ _ hA3, halt, hr, Row.enc_eq]
                      refine ⟨by omega, box_fz (lt_none (hB1b _) (Nat.le_refl _)) ?_ (accfzB hA3 (fun j h1 h2 => lt_none (hB1b _) (by omega)) fun j e => acc_at j e), fun j w e => ?_⟩
                      · cases o3 with
                        | none => exact hset_at _ _ _
                        | some j => have := (hA3.lt j rfl).1; simp only [AccH]; rw [hset_ne _ _ (by omega), hset_at]
                      · refine acc_old (hYb _ _) hA3 _ _ ?_
                        rw [hset_ne _ _ (by have := hB1b _ j w e; omega)]; exact e
                  · generalize Rc r.cells.length = rc at hrst ⊢
                    obtain ⟨q2, sr2⟩ := rc
                    dsimp only at hrst ⊢
                    rw [hrst]
                    simp only [List.map_append, hGi, List.map_cons, List.map_nil]
                    refine SP_of ?_
                    simp [go_sem, Head.flat]
                    have hpush := hA2.push (j := m5 + 1) (m' := m5 + 1 + 1) (e := (Row.mk h4 q2).enc) (Row.E.st _) (Row.E.len _) (by omega) (by omega)
                    rw [app1g (es := G) (e := (Row.mk h4 q2).enc) (o := o2) (t := 78) (t2 := 78) (el := 171) (z := 6) (by simp [go_sem]) (by simp [go_sem]) (by simp [go_sem]) (by simp) (by simp [go_sem]) (by simp [go_sem]) (by simp [go_sem]) (by omega) hA2 (Row.E.len _) ?a1 ?a2]
                    case a1 => simp [hset_at, Row.enc_eq, SV.cells, Row.head, Row.cells]
                    case a2 =>
                      intro j e
                      have := (hA2.lt j e).2
                      rw [hset_ne _ _ (by omega)]; exact acc_at j e
                    have hlive := acc_live' (p := m5 + 1) (v := .sl (m5 + 1) 0 6 (G.length + 1) false) (e := (Row.mk h4 q2).enc) (hBb sr2) (by omega) (hA2.mono (m' := m5) (by omega)) (H := hset (AccH o2 G (upS st sr2 B)) m5 (some (.cells [propsE h4.props, intE h4.ins, intE h4.move, delsE h4.dels, layersE h4.layers, cellsE q2]))) (set_keep (m := m5) (fun j z e => by have := hBb sr2 j z e; omega) (acc_old (hBb sr2) hA2))
                    have hvv : AccV 6 (some (m5 + 1)) (G ++ [(Row.mk h4 q2).enc]) = .sl (m5 + 1) 0 6 (G.length + 1) false := by simp [AccV]
                    simp [go_sem]
                    exact ⟨some (m5 + 1), ⟨by omega, hpush⟩, hvv.symm, by simpa [Out.app, SV.cells, Row.enc_eq, Row.head, Row.cells] using hlive⟩
                · refine SP_of ?_
                  simp [go_sem, w2, Fz.same, -Int.natCast_add]
                  exact ⟨a + 1, by omega, o2, ⟨by omega, hm.1, hm.2⟩, ⟨Fz.same, Fz.same⟩, look_same⟩
              · have hae : a = y.rows.length := by omega
                subst hae
                refine SP_of ?_
                simp [go_sem, Fz.same, hGk _ _ hA2]
                exact ⟨by omega, AccV.fz' (fun j hj => lt_none (hBb _) hj) hA2 look_same, acc_old (hBb _) hA2⟩
            · rw [hRrl, ← hBs]
              generalize rwRows R (chItems R N) y.rows s5 = r9 at hit3 hst3 ⊢
              obtain ⟨rr, s6⟩ := r9
              dsimp only at hit3 hst3 ⊢
              refine SP_mid 1 (α := Unit) (fun _ => [(0, itemsE l), (1, .fn (.func gI) [] bI), (2, .fn (.func gH) [] bH), (7, AccV 11 o E), (8, intE i), (9, .iptr [intE y.kind, intE y.code, intE y.id, .str y.text, propsE y.head.props, intE y.head.ins, intE y.head.move, delsE y.head.dels, layersE y.head.layers, itemsE l5, rowsE rr])]) (fun _ => AccH o E (upS st s6 H)) (fun _ m4 => m3 ≤ m4) ?_ (fun _ m4 hm4 => ?_)
              · simp [go_sem, Fz.same, hset_at, hset_two]
                exact ⟨ptr_fz (lt_none (hXb _) (Nat.le_refl m1)) (hset_at _ _ _), set_keep (hXb _) look_same⟩
              refine SP_of ?_
              simp [go_sem]
              obtain ⟨z, hz⟩ : ∃ z : Item, z = .mk y.kind y.code y.id y.text y.head l5 rr := ⟨_, rfl⟩
              have hzc : z.enc.cells = [intE y.kind, intE y.code, intE y.id, .str y.text, propsE y.head.props, intE y.head.ins, intE y.head.move, delsE y.head.dels, layersE y.head.layers, itemsE l5, rowsE rr] := by rw [hz, Item.enc_eq]; rfl
              rw [← hz]
              have hpush := hA.push (j := m4 + 1) (m' := m4 + 1 + 1) (e := z.enc) (Item.E.st _) (Item.E.len _) (by omega) (by omega)
              rw [app1g (es := E) (e := z.enc) (o := o) (t := 22) (t2 := 22) (el := 80) (z := 11) (by simp [go_sem]) (by simp [go_sem]) (by simp [go_sem]) (by simp) (by simp [go_sem]) (by simp [go_sem]) (by simp [go_sem]) (by omega) hA (Item.E.len _) ?a1 ?a2]
              case a1 => rw [hset_at, hzc]
              case a2 =>
                intro j e
                have := (hA.lt j e).2
                rw [hset_ne _ _ (by omega)]; exact acc_at j e
              have hlive := acc_live' (p := m4 + 1) (v := .sl (m4 + 1) 0 11 (E.length + 1) false) (e := z.enc) (hUb s6) (by omega) (hA.mono (m' := m4) (by omega)) (H := hset (AccH o E (upS st s6 H)) m4 (some (.cells [intE y.kind, intE y.code, intE y.id, .str y.text, propsE y.head.props, intE y.head.ins, intE y.head.move, delsE y.head.dels, layersE y.head.layers, itemsE l5, rowsE rr]))) (set_keep (m := m4) (fun j z e => by have := hUb s6 j z e; omega) (acc_old (hUb s6) hA))
              have hvv : AccV 11 (some (m4 + 1)) (E ++ [z.enc]) = .sl (m4 + 1) 0 11 (E.length + 1) false := by simp [AccV]
              rw [hzc] at hlive
              rw [hzc]
              simp [go_sem]
              exact ⟨some (m4 + 1), ⟨by omega, hpush⟩, hvv.symm, by simpa [Out.app] using hlive⟩
        · refine SP_of ?_
          simp [go_sem, w1, Fz.same, -Int.natCast_add]
          exact ⟨i + 1, by omega, o, ⟨by omega, hm.1, hm.2⟩, ⟨Fz.same, Fz.same⟩, look_same⟩
      · have hie : i = l.length := by omega
        subst hie
        refine SP_of ?_
        simp [go_sem]
        exact ⟨o, ⟨hm1, hA⟩, rfl, look_same⟩
    · refine SP_of ?_
      simp [go_sem]
      rw [hQl] at hm ⊢
      exact ret_accU (hU _) hm.2 (fun e he => by obtain ⟨x, _, rfl⟩ := List.mem_map.1 he; exact Item.cl n x)
end
def stT (q : Nat) (b : Bool) (o : Nat) : Option SObj := if o = q then some (.cells [.bool b]) else none
theorem upS_stT (q : Nat) (b : Bool) (H : Hp) : upS (stT q) b H = hset H q (some (.cells [.bool b])) := by
  funext o
  simp only [upS, stT, hset]
  by_cases e : o = q
  · rw [if_pos e, if_pos e]
  · rw [if_neg e, if_neg e]
theorem stT_cl (q n0 : Nat) (b : Bool) (o : Nat) (y : SObj) (h : stT q b o = some y) : closedO n0 y = true := by
  simp only [stT] at h
  split at h
  · cases h; rfl
  · cases h
theorem stT_old {q n0 : Nat} (hq : q < n0) (b : Bool) {H : Hp} {n : Nat} (hn : n0 ≤ n) (ho : Old H n) : Old (upS (stT q) b H) n := fun o y e => by
  simp only [upS] at e
  cases e1 : stT q b o with
  | some z =>
    rw [e1] at e; cases e
    refine ⟨?_, stT_cl q n b o y e1⟩
    simp only [stT] at e1
    split at e1
    · omega
    · cases e1
  | none => rw [e1] at e; exact ho o y e
def faI (s : ByteArray) (x : Item) : Bool := decide (x.kind = 5 ∨ x.kind = 8) && hasS s x.text
def faR (s : ByteArray) : Rwr Bool where
  flow _ l b := (l, b)
  head h b := (h, b)
  item x b := (x, true, b || faI s x)
theorem w122 (x : Head) : PC 122 [x.enc] x.enc := by
  intro h n
  refine go Tryz.func122 rfl (by kernel_rfl) (by kernel_rfl) (by simp [go_sem]) fun ho => ?_
  simp [go_sem, Head.enc, Head.flat, hset_at, hset_two, hset_ne]
  exact retIs ho (fun j y => by have := ho j y; simp only [hset]; grind) (by simp []) (Head.E.cl n x)
set_option maxHeartbeats 4000000 in
theorem w121 {q n0 : Nat} (hq : q < n0) (x : Item) (s : ByteArray) (hs1 : s.size ≤ 1048576) (hx1 : x.text.size ≤ 1048576) (b : Bool) {H : Hp} {n : Nat} (hn : n0 ≤ n) (hs : hasU (stT q) b H) :
    SCall Tryz.prog 121 ([x.enc] ++ [.ptr q 0, .iptr [.str s]]) H n (fun v h' n' => v = .tup [x.enc, .bool true] ∧ h' = upS (stT q) (b || faI s x) H ∧ n' = n) := by
  refine goS Tryz.func121 rfl (by kernel_rfl) (by kernel_rfl) (by simp [go_sem]) fun ho => ?_
  have hHb : ∀ j y, H j = some y → j < n := fun j y e => (ho j y e).1
  have hHq := hs q _ (show stT q b q = some (.cells [.bool b]) by simp [stT])
  obtain ⟨X, hX⟩ : ∃ X : List SV, X = [intE x.kind, intE x.code, intE x.id, .str x.text, propsE x.head.props, intE x.head.ins, intE x.head.move, delsE x.head.dels, layersE x.head.layers, itemsE x.flow, rowsE x.rows] := ⟨_, rfl⟩
  have hXe : x.enc = .agg X := by rw [hX, Item.enc_eq]
  refine SP_mid 1 (α := Unit) (fun _ => [(1, .ptr q 0), (2, .iptr [.str s]), (3, .iptr X), (4, .ptr (n + 1) 0)]) (fun _ => hset H (n + 1) (some (.cells itemZ))) (fun _ m => n + 2 = m) ?_ (fun _ m hm => ?_)
  · rw [hXe]
    simp [go_sem, Fz.same]
    refine ⟨ptr_fz (by rw [hset_ne _ _ (by omega)]; exact ho.none (Nat.le_refl n)) (by simp [hset]), fun j y => ?_⟩
    have := ho j y; simp only [hset]; grind
  subst hm
  have hq1 : q ≠ n + 1 := by omega
  have hGq : hset H (n + 1) (some (.cells itemZ)) q = some (.cells [.bool b]) := by rw [hset_ne _ _ hq1]; exact hHq
  refine SP_mid 0 (α := Unit) (fun _ => [(3, .iptr X), (4, .ptr (n + 1) 0)]) (fun _ => hset (hset H (n + 1) (some (.cells itemZ))) q (some (.cells [.bool (b || faI s x)]))) (fun _ m => n + 2 = m) ?_ (fun _ m hm => ?_)
  · rw [hX]
    cases b with
    | true => simp [go_sem, hGq, Fz.same]
    | false =>
      by_cases h5 : x.kind = 5
      · simp [go_sem, hGq, h5]
        refine (w54 s x.text (by omega) (by omega)).use ?_
        simp [go_sem, hGq, Fz.same, h5, faI]
      · by_cases h8 : x.kind = 8
        · simp [go_sem, hGq, h8]
          refine (w54 s x.text (by omega) (by omega)).use ?_
          simp [go_sem, hGq, Fz.same, h8, faI]
        · simp [go_sem, hGq, Fz.same, h5, h8, faI]
  subst hm
  refine SP_of ?_
  have hz : hset (hset H (n + 1) (some (.cells itemZ))) q (some (.cells [.bool (b || faI s x)])) (n + 1) = some (.cells itemZ) := by rw [hset_ne _ _ hq1.symm, hset_at]
  rw [hX]
  simp [go_sem, hz, hset_at]
  rw [← hX, ← hXe]
  refine ret_immW (stT_old hq (b || faI s x) hn ho) (by simp only [closed, closedL, Item.cl, Bool.and_true]) fun j y e => ?_
  rw [upS_stT] at e
  by_cases e1 : j = q
  · subst e1; rw [hset_ne _ _ hq1, hset_at]; rw [hset_at] at e; exact e
  · rw [hset_ne _ _ e1] at e
    have := hHb j y e
    rw [hset_ne _ _ (by omega), hset_ne _ _ e1, hset_ne _ _ (by omega)]; exact e
def piT (K N : Nat) (x : Item) : Prop := limI Head.sized K N x ∧ x.text.size ≤ K
theorem faC {q n0 K : Nat} (hq : q < n0) (hK : K ≤ 1048576) (s : ByteArray) (hs1 : s.size ≤ 1048576) : RwC (stT q) n0 113 122 121 [] [] [.ptr q 0, .iptr [.str s]] (faR s) (lim Head.sized K) (piT K) (fun _ => True) (fun _ => 0) 0 where
  up := ⟨fun _ _ _ => Nat.le_refl _, fun _ _ => Nat.le_refl _, fun _ _ => Nat.le_refl _⟩
  lt b o h := by simp only [stT]; rw [if_neg (by omega)]
  dom b b' o h := by simp only [stT] at h ⊢; split at h <;> simp_all
  cl b o y h := stT_cl q n0 b o y h
  zero l h := h
  flow N id l b H n hl ht hn hs := by
    refine SCallE.mono (w113 id l H n) ?_
    rintro v h' n' ⟨rfl, rfl, rfl⟩
    exact ⟨rfl, (upS_self b _ hs).symm, rfl⟩
  head x b H n _ _ hn hs := by
    refine SCallE.mono (w122 x H n) ?_
    rintro v h' n' ⟨rfl, rfl, rfl⟩
    exact ⟨rfl, (upS_self b _ hs).symm, rfl⟩
  item N x b H n hx _ hn hs := w121 hq x s hs1 (by have := hx.2; omega) b hn hs
  flow_ok N id l b hl := ⟨by have := (lim_iff.1 hl).1; simp only [faR]; omega, fun x hx => ⟨(lim_iff.1 hl).2.2 x hx, by have := textsL_mem (show x ∈ l from hx); have := (lim_iff.1 hl).2.1; omega⟩⟩
  item_ok N x b hx _ := ⟨trivial, fun _ => hx.1.2.1, fun _ => ⟨by have := hx.1.2.2.1; simp only [faR]; omega, fun r hr => ⟨trivial, by have := (hx.1.2.2.2 r hr).2.1; omega, fun c hc => ⟨trivial, ((hx.1.2.2.2 r hr).2.2 c hc).2⟩⟩⟩⟩
def inIt (N : Nat) (d : Document) (s : ByteArray) : Bool := (chItems (faR s) N 0 d.flow false).2
set_option maxHeartbeats 4000000 in
theorem w60 (d : Document) (s : ByteArray) {K N : Nat} (hK : K ≤ 1048576) (hs1 : s.size ≤ 1048576) (hl : lim Head.sized K N d.flow) : PC 60 [d.enc, .str s] (.bool (inIt N d s)) := by
  intro h n
  refine goS Tryz.func60 rfl (by kernel_rfl) (by kernel_rfl) (by simp [go_sem]) fun ho => ?_
  refine SP_mid 1 (α := Unit) (fun _ => [(2, .iptr (dcs d)), (3, .iptr [.str s])]) (fun _ => h) (fun _ m => n ≤ m) ?_ (fun _ q hq => ?_)
  · simp [go_sem, Document.enc, Head.flat, Settings.flat]
    refine ⟨by omega, ⟨ptr_fz (ho.none (Nat.le_refl n)) (by simp [hset]), ptr_fz (ho.none (by omega)) (by simp [hset])⟩, fun j y => ?_⟩
    have := ho j y; simp only [hset]; grind
  refine SP_mid 0 (α := Unit) (fun _ => [(2, .iptr (dcs d)), (3, .iptr [.str s]), (5, .ptr q 0)]) (fun _ => hset h q (some (.cells [.bool false]))) (fun _ m => q + 1 = m) ?_ (fun _ m hm => ?_)
  · simp [go_sem, Fz.same, hset_at, hset_two]
  subst hm
  have hc := d31 (faC (q := q) (n0 := q + 1) (Nat.lt_succ_self q) hK s hs1) (fun _ _ _ => rfl)
    (fun N x b hx _ => ⟨hx.1.2.1, by have := hx.1.2.2.1; simp only [faR]; omega, fun r hr => ⟨trivial, by have := (hx.1.2.2.2 r hr).2.1; omega, fun c hc => ⟨trivial, ((hx.1.2.2.2 r hr).2.2 c hc).2⟩⟩⟩)
    N 0 d.flow false (hset h q (some (.cells [.bool false]))) (q + 1) hl (Nat.le_refl _) (Nat.le_refl _) (fun o y e => by
      simp only [stT] at e
      split at e
      · subst_vars; rw [hset_at]; exact e
      · cases e)
  rw [upS_stT, hset_two, show (chItems (faR s) N 0 d.flow false).2 = inIt N d s from rfl] at hc
  refine SP_mid 0 (α := Unit) (fun _ => [(5, .ptr q 0)]) (fun _ => hset h q (some (.cells [.bool (inIt N d s)]))) (fun _ m => q + 1 = m) ?_ (fun _ m hm => ?_)
  · simp [go_sem, Head.flat, Settings.flat]
    refine SC.use hc ?_
    rintro v H' n' ⟨rfl, rfl, rfl⟩
    simp [go_sem, Fz.same]
  subst hm
  refine SP_of ?_
  simp [go_sem, hset_at]
  exact retIs ho (hset_old ho hq look_same) rfl rfl
def revH (s : ByteArray) (r : Rev) : Bool := hasS s r.author
def comH (s : ByteArray) (c : Comment) : Bool := hasS s c.author || hasS s c.text
def styH (s : ByteArray) (x : Style) : Bool := hasS s x.name
def levH (s : ByteArray) (x : Level) : Bool := hasS s x.template
def lstH (s : ByteArray) (x : Lst) : Bool := x.levels.any (levH s)
def varH (s : ByteArray) (x : Var) : Bool := hasS s x.name || hasS s x.value
def has0 (N : Nat) (d : Document) (s : ByteArray) : Bool := inFl d s || inIt N d s
def has1 (N : Nat) (d : Document) (s : ByteArray) : Bool := has0 N d s || d.revs.any (revH s)
def has2 (N : Nat) (d : Document) (s : ByteArray) : Bool := has1 N d s || d.settings.comments.any (comH s)
def has3 (N : Nat) (d : Document) (s : ByteArray) : Bool := has2 N d s || d.settings.styles.any (styH s)
def has4 (N : Nat) (d : Document) (s : ByteArray) : Bool := has3 N d s || d.settings.lists.any (lstH s)
def has5 (N : Nat) (d : Document) (s : ByteArray) : Bool := has4 N d s || d.settings.vars.any (varH s)
theorem any_take {α : Type} (p : α → Bool) {l : List α} {k : Nat} {x : α} (h : k < l.length) (hx : l[k] = x) : (l.take (k + 1)).any p = ((l.take k).any p || p x) := by
  rw [List.take_succ_eq_append_getElem h, hx, List.any_append]; simp
abbrev scs (d : Document) : List SV := [stylesE d.settings.styles, listsE d.settings.lists, commentsE d.settings.comments, varsE d.settings.vars]
set_option maxHeartbeats 32000000 in
theorem w21 (d : Document) (s : ByteArray) {K N : Nat} (hK : K ≤ 1048576) (hs1 : s.size ≤ 1048576) (D : Dsz d) (hl : lim Head.sized K N d.flow) (hfn : (docFlows d).length ≤ 1048576) (htx : ∀ id, (textB (flowAt d id)).length ≤ 536870912)
    (hrv : d.revs.length ≤ 1048576) (hcm : d.settings.comments.length ≤ 1048576) (hsy : d.settings.styles.length ≤ 1048576) (hls : d.settings.lists.length ≤ 1048576) (hlv : ∀ x ∈ d.settings.lists, x.levels.length ≤ 1048576) (hvr : d.settings.vars.length ≤ 1048576)
    (trv : ∀ x ∈ d.revs, x.author.size ≤ 1048576) (tcm : ∀ x ∈ d.settings.comments, x.author.size ≤ 1048576 ∧ x.text.size ≤ 1048576) (tsy : ∀ x ∈ d.settings.styles, x.name.size ≤ 1048576) (tlv : ∀ x ∈ d.settings.lists, ∀ y ∈ x.levels, y.template.size ≤ 1048576) (tvr : ∀ x ∈ d.settings.vars, x.name.size ≤ 1048576 ∧ x.value.size ≤ 1048576) :
    PC 21 [d.enc, .str s] (.bool (has5 N d s)) := by
  intro h n
  refine goS Tryz.func21 rfl (by kernel_rfl) (by kernel_rfl) (by simp [go_sem]) fun ho => ?_
  have hHb : ∀ j y, h j = some y → j < n := fun j y e => (ho j y e).1
  refine SP_mid 1 (α := Unit) (fun _ => [(1, .str s), (2, .iptr (dcs d))]) (fun _ => h) (fun _ m => n ≤ m) ?_ (fun _ m hm => ?_)
  · simp [go_sem, Fz.same, Document.enc, Head.flat, Settings.flat]
    refine ⟨ptr_fz (ho.none (Nat.le_refl n)) (by simp [hset]), fun j y => ?_⟩
    have := ho j y; simp only [hset]; grind
  refine SP_mid 0 (α := Unit) (fun _ => [(1, .str s), (2, .iptr (dcs d)), (5, .bool (has0 N d s))]) (fun _ => h) (fun _ m => n ≤ m) ?_ (fun _ m hm => ?_)
  · have h1 := w19 d s D hfn hs1 htx
    have h2 := w60 (K := K) (N := N) d s hK hs1 hl
    unfold has0
    simp [go_sem, Head.flat, Settings.flat]
    refine PC.use (by simpa [Document.enc, Head.flat, Settings.flat] using h1) ?_
    cases inFl d s with
    | true => simp [go_sem, Fz.same, hm]
    | false =>
      simp [go_sem]
      refine PC.use (by simpa [Document.enc, Head.flat, Settings.flat] using h2) ?_
      simp [go_sem, Fz.same, hm]
  refine SP_midS 0 (α := Unit) (fun _ => [(1, .str s), (2, .iptr (dcs d)), (5, .bool (has1 N d s))]) (fun _ => h) (fun _ m => n ≤ m) ?_ (fun _ m hm => ?_)
  · obtain ⟨T, hT⟩ : ∃ F : Nat → Bool, ∀ i, F i = (has0 N d s || (d.revs.take i).any (revH s)) := ⟨_, fun _ => rfl⟩
    have hT0 : T 0 = (has0 N d s) := by rw [hT]; simp
    have hTs : ∀ k x, (h : k < (d.revs).length) → (d.revs)[k] = x → T (k + 1) = (T k || (revH s) x) := fun k x h hx => by rw [hT, hT, any_take (revH s) h hx, Bool.or_assoc]
    have hTl : T (d.revs).length = (has1 N d s) := by rw [hT, List.take_length]; rfl
    clear hT
    refine SP_mid 0 (α := Unit) (fun _ => [(1, .str s), (2, .iptr (dcs d)), (5, .bool (T 0)), (6, intE 0)]) (fun _ => h) (fun _ m => n ≤ m) ?_ (fun _ m hm => ?_)
    · rw [hT0]; simp [go_sem, Fz.same, hm]
    refine SP_block (goloopS 0 (α := Nat) (fun k => [(1, .str s), (2, .iptr (dcs d)), (5, .bool (T k)), (6, intE k)]) (fun _ => h) (fun k m => k ≤ (d.revs).length ∧ n ≤ m) (fun k => (d.revs).length - k) 0 ⟨Nat.zero_le _, hm⟩ ?_ look_same ?_)
    · simp [go_sem, look, Fz.same]
    rintro k m ⟨hk, hm⟩
    by_cases hlt : k < (d.revs).length
    · have w1 : IntKind.i64.wrap ((k : Int) + 1) = ((k + 1 : Nat) : Int) := by rw [wr64] <;> omega
      obtain ⟨x, hx⟩ : ∃ x, (d.revs)[k] = x := ⟨_, rfl⟩
      have hst := hTs k x hlt hx
      have htx := trv x (hx ▸ List.getElem_mem hlt)
      refine SP_of ?_
      cases hc : T k with
      | true =>
        rw [hc] at hst
        simp [go_sem, hlt, w1, Fz.same, Head.flat, Settings.flat, -Int.natCast_add]
        exact ⟨k + 1, by omega, ⟨by omega, hm⟩, by rw [hst]; exact Fz.same, Fz.same⟩
      | false =>
        rw [hc, Bool.false_or] at hst
        simp [go_sem, hlt, hx, Rev.enc, Head.flat, Settings.flat, -Int.natCast_add]
        refine (w54 s x.author (by omega) (by omega)).use ?_
        simp [go_sem, w1, Fz.same, -Int.natCast_add]
        exact ⟨k + 1, by omega, ⟨by omega, hm⟩, by rw [hst]; exact Fz.same, Fz.same⟩
    · have hke : k = (d.revs).length := by omega
      subst hke
      rw [hTl]
      refine SP_of ?_
      simp [go_sem, Fz.same, hm, Head.flat, Settings.flat]
  refine SP_mid 1 (α := Unit) (fun _ => [(1, .str s), (7, .iptr (scs d)), (5, .bool (has1 N d s))]) (fun _ => h) (fun _ m => n ≤ m) ?_ (fun _ m hm => ?_)
  · simp [go_sem, Fz.same, Head.flat, Settings.flat, hset_at, hset_two]
    exact ⟨by omega, ptr_fz (ho.none hm) (hset_at _ _ _), set_keep (fun j y e => by have := hHb j y e; omega) look_same⟩
  refine SP_midS 0 (α := Unit) (fun _ => [(1, .str s), (7, .iptr (scs d)), (5, .bool (has2 N d s))]) (fun _ => h) (fun _ m => n ≤ m) ?_ (fun _ m hm => ?_)
  · obtain ⟨T, hT⟩ : ∃ F : Nat → Bool, ∀ i, F i = (has1 N d s || (d.settings.comments.take i).any (comH s)) := ⟨_, fun _ => rfl⟩
    have hT0 : T 0 = (has1 N d s) := by rw [hT]; simp
    have hTs : ∀ k x, (h : k < (d.settings.comments).length) → (d.settings.comments)[k] = x → T (k + 1) = (T k || (comH s) x) := fun k x h hx => by rw [hT, hT, any_take (comH s) h hx, Bool.or_assoc]
    have hTl : T (d.settings.comments).length = (has2 N d s) := by rw [hT, List.take_length]; rfl
    clear hT
    refine SP_mid 0 (α := Unit) (fun _ => [(1, .str s), (7, .iptr (scs d)), (5, .bool (T 0)), (8, intE 0)]) (fun _ => h) (fun _ m => n ≤ m) ?_ (fun _ m hm => ?_)
    · rw [hT0]; simp [go_sem, Fz.same, hm]
    refine SP_block (goloopS 0 (α := Nat) (fun k => [(1, .str s), (7, .iptr (scs d)), (5, .bool (T k)), (8, intE k)]) (fun _ => h) (fun k m => k ≤ (d.settings.comments).length ∧ n ≤ m) (fun k => (d.settings.comments).length - k) 0 ⟨Nat.zero_le _, hm⟩ ?_ look_same ?_)
    · simp [go_sem, look, Fz.same]
    rintro k m ⟨hk, hm⟩
    by_cases hlt : k < (d.settings.comments).length
    · have w1 : IntKind.i64.wrap ((k : Int) + 1) = ((k + 1 : Nat) : Int) := by rw [wr64] <;> omega
      obtain ⟨x, hx⟩ : ∃ x, (d.settings.comments)[k] = x := ⟨_, rfl⟩
      have hst := hTs k x hlt hx
      have htx := tcm x (hx ▸ List.getElem_mem hlt)
      refine SP_of ?_
      cases hc : T k with
      | true =>
        rw [hc] at hst
        simp [go_sem, hlt, w1, Fz.same, -Int.natCast_add]
        exact ⟨k + 1, by omega, ⟨by omega, hm⟩, by rw [hst]; exact Fz.same, Fz.same⟩
      | false =>
        rw [hc, Bool.false_or] at hst
        simp [go_sem, hlt, hx, Comment.enc, -Int.natCast_add]
        refine (w54 s x.author (by omega) (by omega)).use ?_
        cases hb : hasS s x.author with
        | true =>
          simp [go_sem, w1, Fz.same, -Int.natCast_add]
          exact ⟨k + 1, by omega, ⟨by omega, hm⟩, by rw [hst, comH, hb]; exact Fz.same, Fz.same⟩
        | false =>
          simp [go_sem, hlt, hx, Comment.enc, -Int.natCast_add]
          refine (w54 s x.text (by omega) (by omega)).use ?_
          simp [go_sem, w1, Fz.same, -Int.natCast_add]
          exact ⟨k + 1, by omega, ⟨by omega, hm⟩, by rw [hst, comH, hb, Bool.false_or]; exact Fz.same, Fz.same⟩
    · have hke : k = (d.settings.comments).length := by omega
      subst hke
      rw [hTl]
      refine SP_of ?_
      simp [go_sem, Fz.same, hm]
  refine SP_midS 0 (α := Unit) (fun _ => [(1, .str s), (7, .iptr (scs d)), (5, .bool (has3 N d s))]) (fun _ => h) (fun _ m => n ≤ m) ?_ (fun _ m hm => ?_)
  · obtain ⟨T, hT⟩ : ∃ F : Nat → Bool, ∀ i, F i = (has2 N d s || (d.settings.styles.take i).any (styH s)) := ⟨_, fun _ => rfl⟩
    have hT0 : T 0 = (has2 N d s) := by rw [hT]; simp
    have hTs : ∀ k x, (h : k < (d.settings.styles).length) → (d.settings.styles)[k] = x → T (k + 1) = (T k || (styH s) x) := fun k x h hx => by rw [hT, hT, any_take (styH s) h hx, Bool.or_assoc]
    have hTl : T (d.settings.styles).length = (has3 N d s) := by rw [hT, List.take_length]; rfl
    clear hT
    refine SP_mid 0 (α := Unit) (fun _ => [(1, .str s), (7, .iptr (scs d)), (5, .bool (T 0)), (9, intE 0)]) (fun _ => h) (fun _ m => n ≤ m) ?_ (fun _ m hm => ?_)
    · rw [hT0]; simp [go_sem, Fz.same, hm]
    refine SP_block (goloopS 0 (α := Nat) (fun k => [(1, .str s), (7, .iptr (scs d)), (5, .bool (T k)), (9, intE k)]) (fun _ => h) (fun k m => k ≤ (d.settings.styles).length ∧ n ≤ m) (fun k => (d.settings.styles).length - k) 0 ⟨Nat.zero_le _, hm⟩ ?_ look_same ?_)
    · simp [go_sem, look, Fz.same]
    rintro k m ⟨hk, hm⟩
    by_cases hlt : k < (d.settings.styles).length
    · have w1 : IntKind.i64.wrap ((k : Int) + 1) = ((k + 1 : Nat) : Int) := by rw [wr64] <;> omega
      obtain ⟨x, hx⟩ : ∃ x, (d.settings.styles)[k] = x := ⟨_, rfl⟩
      have hst := hTs k x hlt hx
      have htx := tsy x (hx ▸ List.getElem_mem hlt)
      refine SP_of ?_
      cases hc : T k with
      | true =>
        rw [hc] at hst
        simp [go_sem, hlt, w1, Fz.same, -Int.natCast_add]
        exact ⟨k + 1, by omega, ⟨by omega, hm⟩, by rw [hst]; exact Fz.same, Fz.same⟩
      | false =>
        rw [hc, Bool.false_or] at hst
        simp [go_sem, hlt, hx, Style.enc, -Int.natCast_add]
        refine (w54 s x.name (by omega) (by omega)).use ?_
        simp [go_sem, w1, Fz.same, -Int.natCast_add]
        exact ⟨k + 1, by omega, ⟨by omega, hm⟩, by rw [hst]; exact Fz.same, Fz.same⟩
    · have hke : k = (d.settings.styles).length := by omega
      subst hke
      rw [hTl]
      refine SP_of ?_
      simp [go_sem, Fz.same, hm]
  refine SP_midS 0 (α := Unit) (fun _ => [(1, .str s), (7, .iptr (scs d)), (5, .bool (has4 N d s))]) (fun _ => h) (fun _ m => n ≤ m) ?_ (fun _ m hm => ?_)
  · obtain ⟨T, hT⟩ : ∃ F : Nat → Bool, ∀ i, F i = (has3 N d s || (d.settings.lists.take i).any (lstH s)) := ⟨_, fun _ => rfl⟩
    have hT0 : T 0 = (has3 N d s) := by rw [hT]; simp
    have hTs : ∀ k x, (h : k < (d.settings.lists).length) → (d.settings.lists)[k] = x → T (k + 1) = (T k || (lstH s) x) := fun k x h hx => by rw [hT, hT, any_take (lstH s) h hx, Bool.or_assoc]
    have hTl : T (d.settings.lists).length = (has4 N d s) := by rw [hT, List.take_length]; rfl
    clear hT
    refine SP_mid 0 (α := Unit) (fun _ => [(1, .str s), (7, .iptr (scs d)), (5, .bool (T 0)), (10, intE 0)]) (fun _ => h) (fun _ m => n ≤ m) ?_ (fun _ m hm => ?_)
    · rw [hT0]; simp [go_sem, Fz.same, hm]
    refine SP_block (goloopS 0 (α := Nat) (fun k => [(1, .str s), (7, .iptr (scs d)), (5, .bool (T k)), (10, intE k)]) (fun _ => h) (fun k m => k ≤ (d.settings.lists).length ∧ n ≤ m) (fun k => (d.settings.lists).length - k) 0 ⟨Nat.zero_le _, hm⟩ ?_ look_same ?_)
    · simp [go_sem, look, Fz.same]
    rintro k m ⟨hk, hm⟩
    by_cases hlt : k < (d.settings.lists).length
    · have w1 : IntKind.i64.wrap ((k : Int) + 1) = ((k + 1 : Nat) : Int) := by rw [wr64] <;> omega
      obtain ⟨x, hx⟩ : ∃ x, (d.settings.lists)[k] = x := ⟨_, rfl⟩
      have hst := hTs k x hlt hx
      have htx := tlv x (hx ▸ List.getElem_mem hlt)
      have hlx := hlv x (hx ▸ List.getElem_mem hlt)
      refine SP_mid 0 (α := Unit) (fun _ => [(1, .str s), (7, .iptr (scs d)), (10, intE k), (5, .bool (T k))]) (fun _ => h) (fun _ m => n ≤ m) ?_ (fun _ m hm => ?_)
      · simp [go_sem, Fz.same, hlt, hm]
      refine SP_midS 0 (α := Unit) (fun _ => [(1, .str s), (7, .iptr (scs d)), (10, intE k), (5, .bool (T (k + 1)))]) (fun _ => h) (fun _ m => n ≤ m) (SP_block ?_) (fun _ m hm => ?_)
      · obtain ⟨U, hU⟩ : ∃ F : Nat → Bool, ∀ i, F i = (T k || (x.levels.take i).any (levH s)) := ⟨_, fun _ => rfl⟩
        have hU0 : U 0 = T k := by rw [hU]; simp
        have hUs : ∀ i y, (h : i < x.levels.length) → x.levels[i] = y → U (i + 1) = (U i || levH s y) := fun i y h hy => by rw [hU, hU, any_take (levH s) h hy, Bool.or_assoc]
        have hUl : U x.levels.length = T (k + 1) := by rw [hU, List.take_length, hst]; rfl
        clear hU
        refine SP_mid 0 (α := Unit) (fun _ => [(1, .str s), (7, .iptr (scs d)), (10, intE k), (5, .bool (U 0)), (11, intE 0)]) (fun _ => h) (fun _ m => n ≤ m) ?_ (fun _ m hm => ?_)
        · rw [hU0]; simp [go_sem, Fz.same, hm]
        refine SP_block (goloopS 0 (α := Nat) (fun i => [(1, .str s), (7, .iptr (scs d)), (10, intE k), (5, .bool (U i)), (11, intE i)]) (fun _ => h) (fun i m => i ≤ x.levels.length ∧ n ≤ m) (fun i => x.levels.length - i) 0 ⟨Nat.zero_le _, hm⟩ ?_ look_same ?_)
        · simp [go_sem, look, Fz.same]
        rintro i m ⟨hi, hm⟩
        by_cases hit : i < x.levels.length
        · have w2 : IntKind.i64.wrap ((i : Int) + 1) = ((i + 1 : Nat) : Int) := by rw [wr64] <;> omega
          obtain ⟨y, hy⟩ : ∃ y, x.levels[i] = y := ⟨_, rfl⟩
          have hst2 := hUs i y hit hy
          have hty := htx y (hy ▸ List.getElem_mem hit)
          refine SP_of ?_
          cases hc : U i with
          | true =>
            rw [hc] at hst2
            simp [go_sem, hlt, hx, Lst.enc, hit, w2, Fz.same, -Int.natCast_add]
            exact ⟨i + 1, by omega, ⟨by omega, hm⟩, by rw [hst2]; exact Fz.same, Fz.same⟩
          | false =>
            rw [hc, Bool.false_or] at hst2
            simp [go_sem, hlt, hx, Lst.enc, hit, hy, Level.enc, -Int.natCast_add]
            refine (w54 s y.template (by omega) (by omega)).use ?_
            simp [go_sem, w2, Fz.same, -Int.natCast_add]
            exact ⟨i + 1, by omega, ⟨by omega, hm⟩, by rw [hst2]; exact Fz.same, Fz.same⟩
        · have hie : i = x.levels.length := by omega
          subst hie
          rw [hUl]
          refine SP_of ?_
          simp [go_sem, Fz.same, hm, hlt, hx, Lst.enc]
      refine SP_of ?_
      simp [go_sem, w1, Fz.same, -Int.natCast_add]
      exact ⟨k + 1, by omega, ⟨by omega, hm⟩, Fz.same, Fz.same⟩
    · have hke : k = (d.settings.lists).length := by omega
      subst hke
      rw [hTl]
      refine SP_of ?_
      simp [go_sem, Fz.same, hm]
  refine SP_midS 0 (α := Unit) (fun _ => [(1, .str s), (7, .iptr (scs d)), (5, .bool (has5 N d s))]) (fun _ => h) (fun _ m => n ≤ m) ?_ (fun _ m hm => ?_)
  · obtain ⟨T, hT⟩ : ∃ F : Nat → Bool, ∀ i, F i = (has4 N d s || (d.settings.vars.take i).any (varH s)) := ⟨_, fun _ => rfl⟩
    have hT0 : T 0 = (has4 N d s) := by rw [hT]; simp
    have hTs : ∀ k x, (h : k < (d.settings.vars).length) → (d.settings.vars)[k] = x → T (k + 1) = (T k || (varH s) x) := fun k x h hx => by rw [hT, hT, any_take (varH s) h hx, Bool.or_assoc]
    have hTl : T (d.settings.vars).length = (has5 N d s) := by rw [hT, List.take_length]; rfl
    clear hT
    refine SP_mid 0 (α := Unit) (fun _ => [(1, .str s), (7, .iptr (scs d)), (5, .bool (T 0)), (12, intE 0)]) (fun _ => h) (fun _ m => n ≤ m) ?_ (fun _ m hm => ?_)
    · rw [hT0]; simp [go_sem, Fz.same, hm]
    refine SP_block (goloopS 0 (α := Nat) (fun k => [(1, .str s), (7, .iptr (scs d)), (5, .bool (T k)), (12, intE k)]) (fun _ => h) (fun k m => k ≤ (d.settings.vars).length ∧ n ≤ m) (fun k => (d.settings.vars).length - k) 0 ⟨Nat.zero_le _, hm⟩ ?_ look_same ?_)
    · simp [go_sem, look, Fz.same]
    rintro k m ⟨hk, hm⟩
    by_cases hlt : k < (d.settings.vars).length
    · have w1 : IntKind.i64.wrap ((k : Int) + 1) = ((k + 1 : Nat) : Int) := by rw [wr64] <;> omega
      obtain ⟨x, hx⟩ : ∃ x, (d.settings.vars)[k] = x := ⟨_, rfl⟩
      have hst := hTs k x hlt hx
      have htx := tvr x (hx ▸ List.getElem_mem hlt)
      refine SP_of ?_
      cases hc : T k with
      | true =>
        rw [hc] at hst
        simp [go_sem, hlt, w1, Fz.same, -Int.natCast_add]
        exact ⟨k + 1, by omega, ⟨by omega, hm⟩, by rw [hst]; exact Fz.same, Fz.same⟩
      | false =>
        rw [hc, Bool.false_or] at hst
        simp [go_sem, hlt, hx, Var.enc, -Int.natCast_add]
        refine (w54 s x.name (by omega) (by omega)).use ?_
        cases hb : hasS s x.name with
        | true =>
          simp [go_sem, w1, Fz.same, -Int.natCast_add]
          exact ⟨k + 1, by omega, ⟨by omega, hm⟩, by rw [hst, varH, hb]; exact Fz.same, Fz.same⟩
        | false =>
          simp [go_sem, hlt, hx, Var.enc, -Int.natCast_add]
          refine (w54 s x.value (by omega) (by omega)).use ?_
          simp [go_sem, w1, Fz.same, -Int.natCast_add]
          exact ⟨k + 1, by omega, ⟨by omega, hm⟩, by rw [hst, varH, hb, Bool.false_or]; exact Fz.same, Fz.same⟩
    · have hke : k = (d.settings.vars).length := by omega
      subst hke
      rw [hTl]
      refine SP_of ?_
      simp [go_sem, Fz.same, hm]
  refine SP_of ?_
  simp [go_sem]
  exact ret0 ho rfl rfl
def sumW (W : Fl → Nat) (l : List Fl) : Nat := (l.map W).sum
theorem sumW_append (W : Fl → Nat) (a b : List Fl) : sumW W (a ++ b) = sumW W a + sumW W b := by simp [sumW]
theorem sumW_fm {α : Type} (W : Fl → Nat) (g : α → List Fl) : ∀ l : List α, sumW W (l.flatMap g) = (l.map fun x => sumW W (g x)).sum
  | [] => rfl
  | x :: l => by rw [List.flatMap_cons, sumW_append, sumW_fm W g l]; simp
theorem sum_le' {α : Type} {f g : α → Nat} : ∀ {l : List α}, (∀ x ∈ l, f x ≤ g x) → (l.map f).sum ≤ (l.map g).sum
  | [], _ => Nat.le_refl _
  | x :: l, h => by
    have h1 := h x (by simp)
    have h2 := sum_le' (l := l) fun y hy => h y (by simp [hy])
    simp only [List.map_cons, List.sum_cons]; omega
theorem sum_one {α : Type} (f : α → Nat) : ∀ l : List α, (l.map fun x => 1 + f x).sum = l.length + (l.map f).sum
  | [] => rfl
  | x :: l => by simp only [List.map_cons, List.sum_cons, List.length_cons, sum_one f l]; omega
def lenW (f : Fl) : Nat := f.items.length
def oneW (_ : Fl) : Nat := 1
theorem flL_sum {hp : Head → Prop} {K : Nat} : ∀ (N : Nat) (l : List Item) (p : Place), lim hp K N l → l.length + sumW lenW (Item.flL p l) ≤ tot N l ∧ sumW oneW (Item.flL p l) ≤ tot N l
  | 0, _, _, h => h.elim
  | N + 1, l, p, H => by
    have hx : ∀ x ∈ l, sumW lenW (Item.fl p x) ≤ tot N x.flow + (x.rows.map fun r => (r.cells.map fun c => 1 + tot N c.flow).sum).sum ∧ sumW oneW (Item.fl p x) ≤ 1 + tot N x.flow + (x.rows.map fun r => (r.cells.map fun c => 1 + tot N c.flow).sum).sum := fun x hx => by
      obtain ⟨_, a, _, b⟩ := H.2.2 x hx
      cases x with
      | mk k c i t hd f r =>
        have a' : lim hp K N f := a
        have b' : ∀ q ∈ r, hp q.head ∧ q.cells.length ≤ K ∧ ∀ c ∈ q.cells, hp c.head ∧ lim hp K N c.flow := b
        rw [Item.fl]
        show _ ≤ tot N f + (r.map _).sum ∧ _ ≤ 1 + tot N f + (r.map _).sum
        by_cases k6 : k = 6
        · rw [if_pos k6]
          obtain ⟨i1, i2⟩ := flL_sum N f p.inNote a'
          simp only [sumW, List.map_cons, List.sum_cons, lenW, oneW] at i1 i2 ⊢
          omega
        · rw [if_neg k6]
          by_cases k7 : k = 7
          · rw [if_pos k7, flLR_fm, sumW_fm, sumW_fm]
            have key : ∀ q ∈ r, sumW lenW (Row.fl p.inTable q) ≤ (q.cells.map fun c => 1 + tot N c.flow).sum ∧ sumW oneW (Row.fl p.inTable q) ≤ (q.cells.map fun c => 1 + tot N c.flow).sum := fun q hq => by
              have := (b' q hq).2.2
              cases q with
              | mk hd cs =>
                rw [Row.fl, flLC_fm, sumW_fm, sumW_fm]
                have kc : ∀ c ∈ cs, sumW lenW (Cell.fl p.inTable c) ≤ 1 + tot N c.flow ∧ sumW oneW (Cell.fl p.inTable c) ≤ 1 + tot N c.flow := fun c hc => by
                  have hcl := (this c hc).2
                  cases c with
                  | mk i hd f' =>
                    obtain ⟨i1, i2⟩ := flL_sum N f' p.inTable hcl
                    rw [Cell.fl]
                    simp only [sumW, List.map_cons, List.sum_cons, lenW, oneW, Cell.flow] at i1 i2 ⊢
                    omega
                exact ⟨sum_le' fun c hc => (kc c hc).1, sum_le' fun c hc => (kc c hc).2⟩
            have k1 := sum_le' (l := r) fun q hq => (key q hq).1
            have k2 := sum_le' (l := r) fun q hq => (key q hq).2
            omega
          · rw [if_neg k7]; simp [sumW]
    rw [flL_fm, sumW_fm, sumW_fm]
    constructor
    · rw [← sum_one]
      exact sum_le' fun x hxl => by have := (hx x hxl).1; omega
    · exact sum_le' fun x hxl => (hx x hxl).2
theorem docIds {d : Document} {K N : Nat} (hl : lim Head.sized K N d.flow) (hd : okDoc N d) : ((docFlows d).map Fl.id).Nodup := by
  have h1 := fl_ids docPlace hl
  rw [docFlows, flowsOf, List.map_cons, List.nodup_cons]
  refine ⟨fun h => ?_, hd.nodup.sublist h1⟩
  have h2 : 1 ≤ (0 : Int) := (hd.ids _ (h1.subset h)).1
  omega
theorem flowAt_of {d : Document} {K N : Nat} (hl : lim Head.sized K N d.flow) (hd : okDoc N d) : ∀ f ∈ docFlows d, flowAt d f.id = f.items := fun f hf => by
  unfold flowAt
  cases h : docFlow d f.id with
  | none => exact absurd (List.find?_eq_none.1 h f hf) (by simp)
  | some g =>
    have hg : g ∈ docFlows d := List.mem_of_find?_eq_some h
    have he : g.id = f.id := by have := List.find?_some h; simpa using this
    rw [nodup_one (docIds hl hd) g hg f hf he]; rfl
theorem docFlows_sum {d : Document} {K N : Nat} (hl : lim Head.sized K N d.flow) (ht : tot N d.flow ≤ 150) : (docFlows d).length ≤ 151 ∧ ((docFlows d).map lenW).sum ≤ 150 := by
  obtain ⟨h1, h2⟩ := flL_sum N d.flow docPlace hl
  have e1 : sumW oneW (Item.flL docPlace d.flow) = (Item.flL docPlace d.flow).length := by
    unfold sumW oneW; induction Item.flL docPlace d.flow with
    | nil => rfl
    | cons x l ih => simp only [List.map_cons, List.sum_cons, List.length_cons, ih]; omega
  rw [e1] at h2
  simp only [docFlows, flowsOf, List.length_cons, List.map_cons, List.sum_cons]
  refine ⟨by omega, ?_⟩
  unfold sumW at h1
  simp only [lenW] at h1 ⊢
  omega
end Go.Proofs.YthinbkgpjmjfeaaGreatDoor.Sh
