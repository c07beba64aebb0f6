/- Arguments that are slices of structs, read into the print's kinds: what the row's reading gives is a list of Lean values that stands in memory as 'Kd.C' says; each string and slice inside weighs no more than the row's reach. -/
import Derived.Test.YtmoblggflijkdaaDoorWWords
import Derived.Deep.Slices
import Derived.ChangeSame
import Derived.SizedLaws
namespace Go.Proofs.YtmoblggflijkdaaDoor.Open
open Go.ChangeShapes Go.WideShapes Go.RowKit Go.Proofs.YtmoblggflijkdaaDoorW.PrintWords

def sizedB (l : List Nat) : Prop := l.all (· ≤ reachBytes) = true
theorem sizedB_append {a b : List Nat} : sizedB (a ++ b) ↔ sizedB a ∧ sizedB b := by
  unfold sizedB; rw [List.all_append, Bool.and_eq_true]
theorem sizedB_cons {a : Nat} {b : List Nat} : sizedB (a :: b) ↔ a ≤ reachBytes ∧ sizedB b := by
  unfold sizedB; rw [List.all_cons, Bool.and_eq_true, decide_eq_true_eq]

/-- Type t's readings are of the kind d, and what is read is Ok. -/
def Opens {α : Type} (P : Program) (t : TypeId) (d : Kd α) (Ok : α → Prop) : Prop :=
  ∀ {H : Type} {enc : TypeId × Value → H} {w : World} {spare : Nat → Bool} {held : Bool} {fuel : Nat} {cs : List Value} {x : DataW H × List MemPlace},
    DataW.trod enc P w 0 spare held fuel t cs = some x → sizedB (x.1.weights P t) → ∃ y : α, d.K w y cs ∧ Ok y

variable {P : Program} {t : TypeId}

theorem opens_int {k : IntKind} (ht : P.underlying t = some (.int k)) : Opens P t (Kd.int k) (fun n => (Lit.int k n).wf = true) := by
  intro H enc w spare held fuel cs x h _
  obtain ⟨n, rfl, rfl, hw⟩ := DataW.trod_int ht h
  exact ⟨n, rfl, hw⟩
theorem opens_bool (ht : P.underlying t = some .bool) : Opens P t Kd.bool (fun _ => True) := by
  intro H enc w spare held fuel cs x h _
  obtain ⟨b, rfl, rfl⟩ := DataW.trod_bool ht h
  exact ⟨b, rfl, trivial⟩
theorem opens_string (ht : P.underlying t = some .string) : Opens P t Kd.string (fun s => s.size ≤ 140737488351232) := by
  intro H enc w spare held fuel cs x h hz
  obtain ⟨s, rfl, rfl, _⟩ := DataW.trod_string ht h
  refine ⟨s, rfl, ?_⟩
  have hz : sizedB [s.data.toList.length] := hz
  have := (sizedB_cons.1 hz).1
  rw [Array.length_toList] at this
  exact this

theorem split2 {α : Type} {cs : List α} {a b : Nat} (h : cs.length = a + b) : cs = (cs.drop 0).take a ++ (cs.drop a).take b := by
  rw [List.drop_zero]
  have : (cs.drop a).take b = cs.drop a := List.take_of_length_le (by rw [List.length_drop]; omega)
  rw [this, List.take_append_drop]
theorem split3 {α : Type} {cs : List α} {a b c : Nat} (h : cs.length = a + b + c) : cs = (cs.drop 0).take a ++ ((cs.drop a).take b ++ (cs.drop (a + b)).take c) := by
  rw [List.drop_zero]
  have h1 : (cs.drop (a + b)).take c = cs.drop (a + b) := List.take_of_length_le (by rw [List.length_drop]; omega)
  rw [h1, show cs.drop (a + b) = (cs.drop a).drop b by rw [List.drop_drop], List.take_append_drop, List.take_append_drop]

theorem opens_struct2 {α β γ : Type} {d0 : Kd α} {d1 : Kd β} {Ok0 : α → Prop} {Ok1 : β → Prop} {f0 f1 : Field} (mk : α → β → γ) (g : γ → α × β) (hg : ∀ a b, g (mk a b) = (a, b))
    (ht : P.underlying t = some (.struct #[f0, f1])) (hc : P.cellsOf t = d0.sz + d1.sz) (o0 : f0.offset = 0) (o1 : f1.offset = d0.sz) (s0 : P.cellsOf f0.type = d0.sz) (s1 : P.cellsOf f1.type = d1.sz)
    (h0 : Opens P f0.type d0 Ok0) (h1 : Opens P f1.type d1 Ok1) : Opens P t (Kd.iso (Kd.pair d0 d1) g) (fun y => Ok0 (g y).1 ∧ Ok1 (g y).2) := by
  intro H enc w spare held fuel cs x h hz
  obtain ⟨y0, y1, n, rfl, hl, e0, e1⟩ := trod_struct2 ht h
  rw [o0, s0] at e0
  rw [o1, s1] at e1
  have hz : sizedB ((DataW.agg [y0.1, y1.1]).weights P t) := hz
  simp only [DataW.weights, ht, DataW.weightsEach, List.map_cons, List.map_nil, List.append_nil, sizedB_append] at hz
  obtain ⟨a, ka, oa⟩ := h0 e0 hz.1
  obtain ⟨b, kb, ob⟩ := h1 e1 hz.2
  refine ⟨mk a b, ⟨_, _, split2 (hl.trans hc), ?_, ?_⟩, ?_⟩
  · rw [hg]; exact ka
  · rw [hg]; exact kb
  · simp only [hg]; exact ⟨oa, ob⟩

theorem trod_struct3' {H : Type} {enc : TypeId × Value → H} {w : World} {base : Nat} {spare : Nat → Bool} {held : Bool} {f0 f1 f2 : Field} {fuel : Nat} {cs : List Value} {x : DataW H × List MemPlace} (ht : P.underlying t = some (.struct #[f0, f1, f2])) (h : DataW.trod enc P w base spare held fuel t cs = some x) :
    ∃ y0 y1 y2 n, x = (.agg [y0.1, y1.1, y2.1], y0.2 ++ (y1.2 ++ y2.2)) ∧ cs.length = P.cellsOf t ∧ DataW.trod enc P w base spare held n f0.type ((cs.drop f0.offset).take (P.cellsOf f0.type)) = some y0 ∧
      DataW.trod enc P w base spare held n f1.type ((cs.drop f1.offset).take (P.cellsOf f1.type)) = some y1 ∧ DataW.trod enc P w base spare held n f2.type ((cs.drop f2.offset).take (P.cellsOf f2.type)) = some y2 := by
  obtain ⟨xs, n, _, rfl, hl, hlen, hf⟩ := DataW.trod_struct ht h
  match xs, hlen with
  | [y0, y1, y2], _ => exact ⟨y0, y1, y2, n, by simp, hl, by simpa using hf 0 f0 rfl, by simpa using hf 1 f1 rfl, by simpa using hf 2 f2 rfl⟩

theorem opens_struct3 {α β γ δ : Type} {d0 : Kd α} {d1 : Kd β} {d2 : Kd γ} {Ok0 : α → Prop} {Ok1 : β → Prop} {Ok2 : γ → Prop} {f0 f1 f2 : Field} (mk : α → β → γ → δ) (g : δ → α × (β × γ)) (hg : ∀ a b c, g (mk a b c) = (a, (b, c)))
    (ht : P.underlying t = some (.struct #[f0, f1, f2])) (hc : P.cellsOf t = d0.sz + d1.sz + d2.sz) (o0 : f0.offset = 0) (o1 : f1.offset = d0.sz) (o2 : f2.offset = d0.sz + d1.sz) (s0 : P.cellsOf f0.type = d0.sz) (s1 : P.cellsOf f1.type = d1.sz) (s2 : P.cellsOf f2.type = d2.sz)
    (h0 : Opens P f0.type d0 Ok0) (h1 : Opens P f1.type d1 Ok1) (h2 : Opens P f2.type d2 Ok2) : Opens P t (Kd.iso (Kd.pair d0 (Kd.pair d1 d2)) g) (fun y => Ok0 (g y).1 ∧ Ok1 (g y).2.1 ∧ Ok2 (g y).2.2) := by
  intro H enc w spare held fuel cs x h hz
  obtain ⟨y0, y1, y2, n, rfl, hl, e0, e1, e2⟩ := trod_struct3' ht h
  rw [o0, s0] at e0
  rw [o1, s1] at e1
  rw [o2, s2] at e2
  have hz : sizedB ((DataW.agg [y0.1, y1.1, y2.1]).weights P t) := hz
  simp only [DataW.weights, ht, DataW.weightsEach, List.map_cons, List.map_nil, List.append_nil, sizedB_append] at hz
  obtain ⟨a, ka, oa⟩ := h0 e0 hz.1
  obtain ⟨b, kb, ob⟩ := h1 e1 hz.2.1
  obtain ⟨c, kc, oc⟩ := h2 e2 hz.2.2
  refine ⟨mk a b c, ⟨_, _, split3 (hl.trans hc), ?_, ⟨_, _, rfl, ?_, ?_⟩⟩, ?_⟩
  · rw [hg]; exact ka
  · rw [hg]; exact kb
  · rw [hg]; exact kc
  · simp only [hg]; exact ⟨oa, ob, oc⟩

theorem sizedB_all {H : Type} {P : Program} {e : TypeId} : ∀ {l : List (DataW H)}, sizedB (DataW.weightsAll P e l) → ∀ x ∈ l, sizedB (x.weights P e)
  | [], _, _, hx => by cases hx
  | d :: r, h, x, hx => by
    have h : sizedB (d.weights P e ++ DataW.weightsAll P e r) := h
    rcases List.mem_cons.1 hx with rfl | hx
    · exact (sizedB_append.1 h).1
    · exact sizedB_all (sizedB_append.1 h).2 x hx

theorem choose_upto {α : Type} {Q : Nat → α → Prop} : ∀ (n : Nat), (∀ i, i < n → ∃ y, Q i y) → ∃ xs : List α, xs.length = n ∧ ∀ i y, xs[i]? = some y → Q i y
  | 0, _ => ⟨[], rfl, fun i y h => by simp at h⟩
  | n + 1, h => by
    obtain ⟨xs, hl, hx⟩ := choose_upto n (fun i hi => h i (by omega))
    obtain ⟨y, hy⟩ := h n (by omega)
    refine ⟨xs ++ [y], by simp [hl], fun i z hz => ?_⟩
    rcases Nat.lt_or_ge i n with hi | hi
    · rw [List.getElem?_append_left (by omega)] at hz
      exact hx i z hz
    · rw [List.getElem?_append_right (by omega)] at hz
      obtain rfl : i = n := by
        have := (List.getElem?_eq_some_iff.1 hz).1
        simp at this
        omega
      rw [hl, Nat.sub_self] at hz
      simp only [List.getElem?_cons_zero, Option.some.injEq] at hz
      exact hz ▸ hy

/-- A slice, of whatever opens. -/
theorem opens_slice {α : Type} {e : TypeId} {d : Kd α} {Ok : α → Prop} (E B : Nat) (ht : P.underlying t = some (.slice e)) (hc : P.cellsOf e = d.sz) (hB : P.bytesOf e = B) (h0 : 0 < B) (he : Opens P e d Ok) :
    Opens P t (Kd.slice E d) (fun xs => xs.length * B ≤ 140737488351232 ∧ ∀ y ∈ xs, Ok y) := by
  intro H enc w spare held fuel cs x h hz
  rcases Go.Deep.open_slice ht h with ⟨rfl, rfl⟩ | ⟨a, len, cap, m, n, D, Pl, rfl, _, hl, hm, hmm, rfl, hi⟩
  · exact ⟨[], ⟨none, 0, rfl, Nat.le_refl _, rfl, by simp, fun h => absurd h (by simp)⟩, by simp, fun y hy => by cases hy⟩
  · have hz : sizedB ((DataW.slice ((List.range len).map D) ((List.range (m - len)).map fun j => D (len + j))).weights P t) := hz
    simp only [DataW.weights, ht, sizedB_cons, sizedB_append, List.length_map, List.length_range, hB] at hz
    obtain ⟨z1, z2, z3⟩ := hz
    have hlm : len ≤ m := by rw [hmm]; split <;> omega
    have hlen : len * B ≤ 140737488351232 := by
      refine Nat.le_trans (Nat.mul_le_mul_right _ ?_) z1
      omega
    have hlen2 : len ≤ 140737488351232 := Nat.le_trans (Nat.le_mul_of_pos_right _ h0) hlen
    obtain ⟨xs, hxl, hx⟩ := choose_upto (α := α) (Q := fun i y => ∃ c, c.length = d.sz ∧ d.K w y c ∧ Ok y ∧ ∀ j u, c[j]? = some u → w.cell? (a.add (i * d.sz + j)) = some u) len (fun i hil => by
      obtain ⟨c, h1, h2⟩ := hi i (by omega)
      obtain ⟨_, hcl, hat⟩ := World.cells?_some h1
      obtain ⟨y, ky, oy⟩ := he h2 (sizedB_all z2 _ (List.mem_map.2 ⟨i, List.mem_range.2 hil, rfl⟩))
      refine ⟨y, c, d.K_len ky, ky, oy, fun j u hu => ?_⟩
      have hj : j < P.cellsOf e := by have := (List.getElem?_eq_some_iff.1 hu).1; omega
      rw [← Go.Deep.add_add, ← hc]
      exact (hat j hj).trans hu)
    refine ⟨xs, ⟨some a, cap, by rw [hxl], by rw [hxl]; exact hl, rfl, by rw [hxl]; omega, fun _ => ⟨a, rfl, fun j p hj => ?_⟩⟩, by rw [hxl]; exact hlen, fun y hy => ?_⟩
    · obtain ⟨c, hc1, hc2, _, hc4⟩ := hx j p hj
      exact ⟨c, hc1, hc2, hc4⟩
    · obtain ⟨j, hj⟩ := List.getElem?_of_mem hy
      obtain ⟨c, _, _, hc3, _⟩ := hx j y hj
      exact hc3

/-- An argument that is such a slice. -/
theorem open_arg {H : Type} {enc : TypeId × Value → H} {w : World} {spare : Nat → Bool} {held : Bool} {α : Type} {d : Kd α} {Ok : List α → Prop} {E : Nat} {v : Value} {x : DataW H} {p : List MemPlace} (ho : Opens P t (Kd.slice E d) Ok) (hv : ∃ a len cap, v = .slice a len cap) (h : DataW.Trod enc P w 0 spare held t v x p) (hz : sizedB (x.weights P t)) :
    ∃ (A : Option Addr) (c : Nat) (xs : List α), v = .slice A xs.length c ∧ xs.length ≤ c ∧ Kd.C d w A xs.length xs ∧ Ok xs := by
  obtain ⟨fuel, hf⟩ := h
  obtain ⟨a, len, cap, rfl⟩ := hv
  obtain ⟨xs, ⟨A, c, hcs, hl, hC⟩, ok⟩ := ho hf hz
  simp [Value.cells] at hcs
  obtain ⟨rfl, rfl, rfl⟩ := hcs
  exact ⟨_, _, xs, rfl, hl, hC, ok⟩

/-- What the row's weights say of one argument. -/
theorem sized_arg {H : Type} {P : Program} {ts : List TypeId} {ds : List (DataW H)} (hsz : (DataW.weightsEach P ts ds).all (· ≤ reachBytes) = true) {j : Nat} {t : TypeId} {d : DataW H} (ht : ts[j]? = some t) (hd : ds[j]? = some d) : sizedB (d.weights P t) := by
  unfold sizedB
  rw [List.all_eq_true]
  intro n hn
  exact List.all_eq_true.1 hsz n (DataW.weights_mem_each ht hd n hn)
end Go.Proofs.YtmoblggflijkdaaDoor.Open
