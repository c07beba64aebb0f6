/- A map of letters to numbers: what look-up, entry and store do to it. -/
import Derived.Test.YtpnbeifbapcmdaaNtG
import Derived.Deep.RegionLawGrows
import Derived.Handy
import Derived.MapKept
import Derived.WideKeyEntry
import Derived.Deep.RegionLaw
import Derived.Lib.SliceRun
import Derived.Lib.Bytes
namespace Go.Proofs.Ytpnbeifbapcmdaa.Nk
open Go.Proofs.Ytpnbeifbapcmdaa.Nt Go.MapKept Go.RowKit Go.Proofs.Ytpnbeifbapcmdaa.PNetGoes Go.Proofs.YtpnbeifbapcmdaaW.PrintWords Go.Proofs.YtpnbeifbapcmdaaW.PrintLast Go.Proofs.YtpnbeifbapcmdaaW.PrintMore
set_option linter.unusedVariables false
set_option linter.unusedSimpArgs false
attribute [local go_sem] max2_int min2_int max_two min_two
def kv (x : S28) : Value := .agg #[.int .i64 x.f0, .int .i64 x.f1, .string x.f2]
def eqX (x y : S28) : Bool := x.f0 == y.f0 && (x.f1 == y.f1 && x.f2.toList == y.f2.toList)
theorem eqX_iff (x y : S28) : eqX x y = true ↔ x = y := by
  obtain ⟨a, b, c⟩ := x
  obtain ⟨d, e, f⟩ := y
  simp only [eqX, Bool.and_eq_true, beq_iff_eq, S28.mk.injEq, ByteArray.toList_eq]
  constructor
  · rintro ⟨h1, h2, h3⟩
    exact ⟨h1, h2, by
      obtain ⟨⟨c⟩⟩ := c
      obtain ⟨⟨f⟩⟩ := f
      cases h3
      rfl⟩
  · rintro ⟨h1, h2, h3⟩
    exact ⟨h1, h2, by rw [h3]⟩
theorem run_eq28 (x y : S28) (w : World) : (Op.equal 28 (kv x) (kv y)).run Try.prog w = .ok (eqX x y) w := by
  unfold Op.equal kv
  refine eqA_of Try.underlying28 (by kernel_rfl) ?_
  have hu3 := Try.underlying3
  have hu9 := Try.underlying9
  refine eqf_cons (r := x.f0 == y.f0) (by decide +kernel) (a := .int .i64 x.f0) (b := .int .i64 y.f0) ?_ ?_ ?_ ?_
  · go_simp
  · go_simp
  · exact run_equalIn_int w 9998 3 .i64 .i64 _ _ hu3
  refine eqf_cons (r := x.f1 == y.f1) (by decide +kernel) (a := .int .i64 x.f1) (b := .int .i64 y.f1) ?_ ?_ ?_ ?_
  · go_simp
  · go_simp
  · exact run_equalIn_int w 9998 3 .i64 .i64 _ _ hu3
  refine eqf_last (r := x.f2.toList == y.f2.toList) (by decide +kernel) (a := .string x.f2) (b := .string y.f2) ?_ ?_ ?_
  · go_simp
  · go_simp
  · exact run_equalIn_string w 9998 9 _ _ hu9
def ent (p : S28 × Int × Nat) : MapEntry := { key := kv p.1, val := .int .i64 p.2.1, born := p.2.2 }
/-- The entry of a key: where it stands, its number. -/
def find (x : S28) : List (S28 × Int × Nat) → Nat → Option (Nat × Int)
  | [], _ => none
  | p :: r, i => if eqX x p.1 = true then some (i, p.2.1) else find x r (i + 1)
theorem run_find (x : S28) (w : World) : ∀ (es : List (S28 × Int × Nat)) (i : Nat), (Instr.findAsking 28 (kv x) (es.map ent) i).run Try.prog w = .ok ((find x es i).map fun q => (q.1, .int .i64 q.2)) w := by
  intro es
  induction es with
  | nil => intro i; rfl
  | cons p r ih =>
    intro i
    unfold Instr.findAsking find
    simp only [List.map_cons, ent, Sem.run_bind, run_eq28, Result.andThen]
    split
    · rfl
    · exact ih (i + 1)
theorem run_fk (x : S28) (w : World) (es : List (S28 × Int × Nat)) : (Instr.findKey 28 (kv x) (es.map ent)).run Try.prog w = .ok ((find x es 0).map fun q => (q.1, .int .i64 q.2)) w := by
  have hu := Try.underlying28
  unfold Instr.findKey
  simp only [Sem.run_bind, run_underlying hu, Result.andThen]
  cases es with
  | nil => rfl
  | cons p r =>
    have e : Instr.findNow (.struct #[{ name := "From", type := 3, offset := 0, embedded := false, tag := "", pkgPath := "", byteOffset := 0 }, { name := "To", type := 3, offset := 1, embedded := false, tag := "", pkgPath := "", byteOffset := 8 }, { name := "Bytes", type := 9, offset := 2, embedded := false, tag := "", pkgPath := "", byteOffset := 16 }]) (kv x) ((p :: r).map ent) 0 = none := rfl
    simp only [e]
    exact run_find x w (p :: r) 0
theorem run_ck (x : S28) (e : Bool) (w : World) : (Instr.checkKey e 10000 28 (kv x)).run Try.prog w = .ok () w := by
  kernel_rfl
theorem run_keep (x : S28) (w : World) : (Instr.keyThatStays (kv x) (kv x)).run Try.prog w = .ok (kv x) w := by
  have hs : Instr.sameBits 9999 (.string x.f2) (.string x.f2) = true := sameBits_self (d := .string) (k := .string x.f2) trivial 9999
  have h : Instr.sameBits 10000 (kv x) (kv x) = true := by
    have h1 : (x.f2 == x.f2) = true := by simpa [Instr.sameBits] using hs
    simp [Instr.sameBits, kv, h1]
  simp [Instr.keyThatStays, h]
def get (x : S28) (es : List (S28 × Int × Nat)) : Int := match find x es 0 with | some q => q.2 | none => 0
/-- The map at block b. -/
def MB (w : World) (b : Nat) (es : List (S28 × Int × Nat)) (clock : Nat) : Prop := w.heap[b]? = some (.map (es.map ent).toArray clock)
theorem run_zero3 (w : World) : (zeroValue 3).run Try.prog w = .ok (.int .i64 0) w := by kernel_rfl
theorem run_lookup {w : World} {b : Nat} {es : List (S28 × Int × Nat)} {clock : Nat} (h : MB w b es clock) (x : S28) : (Instr.lookup 26 (.map (some b)) (kv x) false).run Try.prog w = .ok (.int .i64 (get x es)) w := by
  have hu := Try.underlying26
  have hg := MapKept.run_getObj_map (P := Try.prog) (show w.heap[b]? = _ from h)
  unfold Instr.lookup
  simp only [Sem.run_bind, run_underlying hu, Result.andThen, hg, Sem.run_pure, run_ck, List.toList_toArray, run_fk]
  unfold get
  cases find x es 0 with
  | none => simp [run_zero3, Result.andThen]
  | some q => simp
theorem find_at (x : S28) : ∀ (es : List (S28 × Int × Nat)) (k i : Nat) (n : Int), find x es k = some (i, n) → k ≤ i ∧ ∃ c, es[i - k]? = some (x, n, c) := by
  intro es
  induction es with
  | nil => intro k i n h; cases h
  | cons p r ih =>
    intro k i n h
    unfold find at h
    split at h
    · rename_i he
      injection h with h
      injection h with h1 h2
      have := (eqX_iff x p.1).1 he
      subst h1
      subst h2
      exact ⟨Nat.le_refl _, p.2.2, by simp [this]⟩
    · obtain ⟨h1, c, h2⟩ := ih (k + 1) i n h
      refine ⟨by omega, c, ?_⟩
      obtain ⟨j, hj⟩ : ∃ j, i - k = j + 1 := ⟨i - k - 1, by omega⟩
      rw [hj, List.getElem?_cons_succ]
      rw [show i - (k + 1) = j by omega] at h2
      exact h2
theorem find_none (x : S28) : ∀ (es : List (S28 × Int × Nat)) (k : Nat), find x es k = none → ∀ p ∈ es, p.1 ≠ x := by
  intro es
  induction es with
  | nil => intro k _ p hp; cases hp
  | cons q r ih =>
    intro k h p hp
    unfold find at h
    split at h
    · cases h
    · rename_i he
      rcases List.mem_cons.1 hp with rfl | hp
      · exact fun e => he ((eqX_iff x p.1).2 e.symm)
      · exact ih (k + 1) h p hp
theorem run_entry_old {w : World} {b : Nat} {es : List (S28 × Int × Nat)} {clock : Nat} (h : MB w b es clock) (x : S28) {i c : Nat} {n : Int} (hf : find x es 0 = some (i, n)) (he : es[i]? = some (x, n, c)) :
    (Instr.mapEntry 26 (.map (some b)) (kv x)).run Try.prog w = .ok (.tuple #[.int .i64 n, .int .i64 (c : Int)]) w := by
  have hu := Try.underlying26
  have hg := MapKept.run_getObj_map (P := Try.prog) (show w.heap[b]? = _ from h)
  have hm : ((es.map ent)[i]?) = some (ent (x, n, c)) := by rw [List.getElem?_map, he]; rfl
  have hmod : ((es.map ent).toArray.modify i fun e => { e with key := kv x }) = (es.map ent).toArray := by
    apply Array.ext'
    rw [Array.toList_modify, List.toList_toArray]
    obtain ⟨hi, hx⟩ := List.getElem?_eq_some_iff.1 hm
    apply List.ext_getElem?
    intro j
    rw [List.getElem?_modify]
    by_cases e : i = j
    · subst e
      rw [hm]
      simp [ent]
    · simp [e]
  have hw : (setObj b (.map (es.map ent).toArray clock)).run Try.prog w = .ok () w := by
    rw [MapKept.run_setObj_map (P := Try.prog) _ (show w.heap[b]? = _ from h)]
    congr 1
    have : w.heap.setIfInBounds b (.map (es.map ent).toArray clock) = w.heap := by
      apply Array.ext_getElem?
      intro j
      by_cases e : b = j
      · subst e
        rw [Array.getElem?_setIfInBounds_self_of_lt (Array.getElem?_eq_some_iff.1 h).1, h]
      · rw [Array.getElem?_setIfInBounds_ne e]
    rw [this]
  unfold Instr.mapEntry
  simp only [Sem.run_bind, run_underlying hu, Result.andThen, hg, run_ck, List.toList_toArray, run_fk, hf, Option.map_some, Sem.run_pure]
  have hm2 : ((es.map ent).toArray[i]?) = some (ent (x, n, c)) := by simpa using hm
  simp only [hm2, Option.map_some, Option.getD_some, ent, run_keep]
  simp [hmod, hw]
  rfl
theorem run_entry_new {w : World} {b : Nat} {es : List (S28 × Int × Nat)} {clock : Nat} (h : MB w b es clock) (x : S28) (hf : find x es 0 = none) :
    ∃ w', (Instr.mapEntry 26 (.map (some b)) (kv x)).run Try.prog w = .ok (.tuple #[.int .i64 0, .int .i64 (clock : Int)]) w' ∧ MB w' b (es ++ [(x, 0, clock)]) (clock + 1) ∧ w' = { w with heap := w.heap.setIfInBounds b (.map ((es ++ [(x, 0, clock)]).map ent).toArray (clock + 1)) } := by
  have hu := Try.underlying26
  have hg := MapKept.run_getObj_map (P := Try.prog) (show w.heap[b]? = _ from h)
  have hp : (es.map ent).toArray.push { key := kv x, val := .int .i64 0, born := clock } = ((es ++ [(x, 0, clock)]).map ent).toArray := by simp [ent]
  have hw := MapKept.run_setObj_map (P := Try.prog) (.map ((es ++ [(x, 0, clock)]).map ent).toArray (clock + 1)) (show w.heap[b]? = _ from h)
  refine ⟨_, ?_, ?_, rfl⟩
  · unfold Instr.mapEntry
    simp only [Sem.run_bind, run_underlying hu, Result.andThen, hg, run_ck, List.toList_toArray, run_fk, hf, Option.map_none, Sem.run_pure, run_zero3, hp, hw]
    rfl
  · exact (MapKept.heap_set (show w.heap[b]? = _ from h)).1
theorem run_store {w : World} {b : Nat} {es : List (S28 × Int × Nat)} {clock : Nat} (h : MB w b es clock) {i c : Nat} {x : S28} {n m : Int} (hn : (es.map fun p => p.2.2).Nodup) (he : es[i]? = some (x, n, c)) :
    ∃ w', (Instr.entryStore 26 (.map (some b)) (.int .i64 (c : Int)) (.int .i64 m)).run Try.prog w = .ok () w' ∧ MB w' b (es.set i (x, m, c)) clock ∧ w' = { w with heap := w.heap.setIfInBounds b (.map ((es.set i (x, m, c)).map ent).toArray clock) } := by
  have hg := MapKept.run_getObj_map (P := Try.prog) (show w.heap[b]? = _ from h)
  have hl : (es.map ent)[i]? = some (ent (x, n, c)) := by rw [List.getElem?_map, he]; rfl
  have hfi : ((es.map ent).toArray.findIdx? fun e => ((e.born : Nat) : Int) == (c : Int)) = some i := by
    rw [WideElems.findIdx_arr, List.toList_toArray]
    exact WideElems.findIdx_born (by rw [List.map_map]; exact hn) hl
  have hmod : ((es.map ent).toArray.modify i fun e => { e with val := .int .i64 m }) = ((es.set i (x, m, c)).map ent).toArray := by
    apply Array.ext'
    rw [Array.toList_modify, List.toList_toArray, List.toList_toArray]
    apply List.ext_getElem?
    intro j
    rw [List.getElem?_modify, List.getElem?_map, List.getElem?_map, List.getElem?_set]
    by_cases e : i = j
    · subst e
      obtain ⟨hi, hx⟩ := List.getElem?_eq_some_iff.1 he
      simp [he, hi, hx, ent]
    · simp [e]
  have hw := MapKept.run_setObj_map (P := Try.prog) (.map ((es.set i (x, m, c)).map ent).toArray clock) (show w.heap[b]? = _ from h)
  refine ⟨_, ?_, ?_, rfl⟩
  · unfold Instr.entryStore
    have ha : (asInt (.int .i64 (c : Int))).run Try.prog w = .ok (c : Int) w := rfl
    simp only [Sem.run_bind, Result.andThen, hg, ha]
    rw [hfi]
    simp only []
    rw [hmod]
    exact hw
  · exact (MapKept.heap_set (show w.heap[b]? = _ from h)).1
theorem find_set (x y : S28) (m : Int) (c : Nat) : ∀ (es : List (S28 × Int × Nat)) (k i : Nat) (n : Int), find x es k = some (i, n) → find y (es.set (i - k) (x, m, c)) k = if eqX y x = true then some (i, m) else find y es k := by
  intro es
  induction es with
  | nil => intro k i n h; cases h
  | cons p r ih =>
    intro k i n h
    unfold find at h
    split at h
    · rename_i he
      injection h with h
      injection h with h1 h2
      subst h1
      have hp := (eqX_iff x p.1).1 he
      rw [Nat.sub_self, List.set_cons_zero]
      unfold find
      simp only []
      rw [← hp]
      split <;> rfl
    · rename_i he
      have hk := (find_at x r (k + 1) i n h).1
      obtain ⟨j, hj⟩ : ∃ j, i - k = j + 1 := ⟨i - k - 1, by omega⟩
      rw [hj, List.set_cons_succ]
      have := ih (k + 1) i n h
      rw [show i - (k + 1) = j by omega] at this
      unfold find
      by_cases h1 : eqX y p.1 = true
      · rw [if_pos h1, if_pos h1]
        have : ¬ (eqX y x = true) := fun h2 => he ((eqX_iff x p.1).2 (((eqX_iff y x).1 h2).symm.trans ((eqX_iff y p.1).1 h1)))
        rw [if_neg this]
      · rw [if_neg h1, if_neg h1]
        exact this
theorem find_app (x y : S28) (m : Int) (c : Nat) : ∀ (es : List (S28 × Int × Nat)) (k : Nat), find y (es ++ [(x, m, c)]) k = match find y es k with | some q => some q | none => if eqX y x = true then some (k + es.length, m) else none := by
  intro es
  induction es with
  | nil => intro k; simp [find]
  | cons p r ih =>
    intro k
    rw [List.cons_append]
    unfold find
    split
    · rfl
    · rw [ih (k + 1)]
      simp only [List.length_cons]
      rw [show k + 1 + r.length = k + (r.length + 1) by omega]
def upd (f : S28 → Int) (x : S28) (m : Int) : S28 → Int := fun y => if eqX y x = true then m else f y
/-- Block b is a map that tells f. -/
def MK (w : World) (b : Nat) (f : S28 → Int) : Prop := ∃ es clock, MB w b es clock ∧ (es.map fun p => p.2.2).Nodup ∧ (∀ p ∈ es, p.2.2 < clock) ∧ ∀ y, get y es = f y
theorem MK.lookup {w : World} {b : Nat} {f : S28 → Int} (h : MK w b f) (x : S28) : (Instr.lookup 26 (.map (some b)) (kv x) false).run Try.prog w = .ok (.int .i64 (f x)) w := by
  obtain ⟨es, clock, h1, _, _, h4⟩ := h
  rw [← h4 x]
  exact run_lookup h1 x
theorem MK.same {w w1 : World} {b : Nat} {f : S28 → Int} (h : MK w b f) (e : w1.heap[b]? = w.heap[b]?) : MK w1 b f := by
  obtain ⟨es, clock, h1, h2⟩ := h
  exact ⟨es, clock, e.trans h1, h2⟩
theorem MK.new (w : World) : MK (w.alloc (.map #[] 0)) w.heap.size (fun _ => 0) := ⟨[], 0, heap_alloc_new w _, by simp, by simp, fun y => rfl⟩
/-- w' is w but for block b. -/
def But (b : Nat) (w w' : World) : Prop := (∀ k, k ≠ b → w'.heap[k]? = w.heap[k]?) ∧ w'.heap.size = w.heap.size ∧ w'.os = w.os ∧ w'.tape = w.tape ∧ w'.output = w.output
theorem But.refl (b : Nat) (w : World) : But b w w := ⟨fun _ _ => rfl, rfl, rfl, rfl, rfl⟩
theorem But.set (b : Nat) (w : World) (o : Obj) : But b w { w with heap := w.heap.setIfInBounds b o } := ⟨fun k hk => Array.getElem?_setIfInBounds_ne (Ne.symm hk), by simp, rfl, rfl, rfl⟩
theorem But.trans {b : Nat} {w w1 w2 : World} (h : But b w w1) (k : But b w1 w2) : But b w w2 := ⟨fun i hi => (k.1 i hi).trans (h.1 i hi), k.2.1.trans h.2.1, k.2.2.1.trans h.2.2.1, k.2.2.2.1.trans h.2.2.2.1, k.2.2.2.2.trans h.2.2.2.2⟩
/-- m[x] = m, in the three steps of 'm[x]++': the entry is fetched, its number stored. -/
theorem MK.step {w : World} {b : Nat} {f : S28 → Int} (h : MK w b f) (x : S28) (m : Int) : ∃ (c : Nat) (wY wZ : World), (Instr.mapEntry 26 (.map (some b)) (kv x)).run Try.prog w = .ok (.tuple #[.int .i64 (f x), .int .i64 (c : Int)]) wY ∧ MK wY b f ∧ But b w wY ∧ (Instr.entryStore 26 (.map (some b)) (.int .i64 (c : Int)) (.int .i64 m)).run Try.prog wY = .ok () wZ ∧ MK wZ b (upd f x m) ∧ But b wY wZ := by
  obtain ⟨es, clock, h1, h2, h3, h4⟩ := h
  cases hf : find x es 0 with
  | some q =>
    obtain ⟨i, n⟩ := q
    obtain ⟨_, c, he⟩ := find_at x es 0 i n hf
    rw [Nat.sub_zero] at he
    have hn : f x = n := by rw [← h4 x]; unfold get; rw [hf]
    obtain ⟨wZ, r1, r2, r3⟩ := run_store h1 (m := m) h2 he
    refine ⟨c, w, wZ, by rw [hn]; exact run_entry_old h1 x hf he, ⟨es, clock, h1, h2, h3, h4⟩, But.refl b w, r1, ⟨_, clock, r2, ?_, ?_, ?_⟩, by rw [r3]; exact But.set b w _⟩
    · obtain ⟨hi, hx⟩ := List.getElem?_eq_some_iff.1 he
      have : (es.set i (x, m, c)).map (fun p => p.2.2) = es.map fun p => p.2.2 := by
        apply List.ext_getElem?
        intro j
        rw [List.getElem?_map, List.getElem?_map, List.getElem?_set]
        by_cases e : i = j
        · subst e
          simp [hi, hx]
        · simp [e]
      rw [this]
      exact h2
    · intro p hp
      rcases List.mem_or_eq_of_mem_set hp with hp | rfl
      · exact h3 p hp
      · have := h3 _ (List.mem_of_getElem? he)
        exact this
    · intro y
      have := find_set x y m c es 0 i n hf
      rw [Nat.sub_zero] at this
      unfold get upd
      rw [this]
      by_cases e : eqX y x = true
      · rw [if_pos e, if_pos e]
      · rw [if_neg e, if_neg e, ← h4 y]
        rfl
  | none =>
    have hn : f x = 0 := by rw [← h4 x]; unfold get; rw [hf]
    obtain ⟨wY, r1, r2, r3⟩ := run_entry_new h1 x hf
    have hnd : ((es ++ [(x, (0 : Int), clock)]).map fun p => p.2.2).Nodup := by
      rw [List.map_append, List.nodup_append]
      refine ⟨h2, by simp, fun a ha b' hb => ?_⟩
      obtain ⟨p, hp, rfl⟩ := List.mem_map.1 ha
      have := h3 p hp
      simp at hb
      omega
    have he : (es ++ [(x, (0 : Int), clock)])[es.length]? = some (x, 0, clock) := by simp
    obtain ⟨wZ, s1, s2, s3⟩ := run_store r2 (m := m) hnd he
    have hset : (es ++ [(x, (0 : Int), clock)]).set es.length (x, m, clock) = es ++ [(x, m, clock)] := by simp
    rw [hset] at s2
    refine ⟨clock, wY, wZ, by rw [hn]; exact r1, ⟨_, clock + 1, r2, hnd, ?_, ?_⟩, by rw [r3]; exact But.set b w _, s1, ⟨_, clock + 1, s2, ?_, ?_, ?_⟩, by rw [s3]; exact But.set b wY _⟩
    · intro p hp
      rcases List.mem_append.1 hp with hp | hp
      · have := h3 p hp; omega
      · simp at hp; subst hp; simp
    · intro y
      rw [← h4 y]
      unfold get
      rw [find_app]
      cases find y es 0 with
      | some q => rfl
      | none =>
        by_cases e : eqX y x = true
        · simp only [if_pos e]
        · simp only [if_neg e]
    · have : ((es ++ [(x, m, clock)]).map fun p => p.2.2) = ((es ++ [(x, (0 : Int), clock)]).map fun p => p.2.2) := by simp
      rw [this]
      exact hnd
    · intro p hp
      rcases List.mem_append.1 hp with hp | hp
      · have := h3 p hp; omega
      · simp at hp; subst hp; simp
    · intro y
      unfold get upd
      rw [find_app]
      by_cases e : eqX y x = true
      · have := (eqX_iff y x).1 e
        subst this
        rw [hf, if_pos e]
        simp only [if_pos e]
      · rw [if_neg e, ← h4 y]
        unfold get
        cases find y es 0 with
        | some q => simp only [if_neg e]
        | none => simp only [if_neg e]
end Go.Proofs.Ytpnbeifbapcmdaa.Nk
