import Derived.Test.YtpnbeifbapcmdaaNkA
import Derived.Deep.RegionLawGrows
import Derived.Handy
import Derived.StillTailTactics
import Derived.MapKept
import Derived.WideKeyEntry
import Derived.Deep.RegionLaw
import Derived.Lib.SliceRun
import Derived.Lib.Bytes
namespace Go.Proofs.Ytpnbeifbapcmdaa.Nk
open Go.Proofs.Ytpnbeifbapcmdaa.Nt Go.MapKept Go.RowKit Go.Proofs.Ytpnbeifbapcmdaa.PNetGoes Go.Proofs.YtpnbeifbapcmdaaW.PrintWords Go.Proofs.YtpnbeifbapcmdaaW.PrintLast Go.Proofs.YtpnbeifbapcmdaaW.PrintMore
set_option linter.unusedVariables false
set_option linter.unusedSimpArgs false
attribute [local go_sem] max2_int min2_int max_two min_two
def cnt (l : List S28) : S28 → Int := fun y => ((l.filter (eqX y)).length : Int)
theorem eqX_comm (x y : S28) : eqX x y = eqX y x := by
  rw [Bool.eq_iff_iff, eqX_iff, eqX_iff]
  exact ⟨fun h => h.symm, fun h => h.symm⟩
theorem cnt_app (l : List S28) (x : S28) : cnt (l ++ [x]) = upd (cnt l) x (cnt l x + 1) := by
  funext y
  unfold cnt upd
  rw [List.filter_append, List.length_append]
  by_cases e : eqX y x = true
  · have := (eqX_iff y x).1 e
    subst this
    simp [List.filter, e]
  · simp [List.filter, e]
theorem cnt_erase (l : List S28) (j : Nat) (hj : j < l.length) : cnt (l.eraseIdx j) = upd (cnt l) (rd_T28 l (j : Int)) (cnt l (rd_T28 l (j : Int)) - 1) ∧ 1 ≤ cnt l (rd_T28 l (j : Int)) := by
  have hx : rd_T28 l (j : Int) = l[j] := by simp [rd_T28, List.getD_eq_getElem?_getD, List.getElem?_eq_getElem hj]
  rw [hx]
  have hl : l = l.take j ++ l[j] :: l.drop (j + 1) := by rw [← List.drop_eq_getElem_cons hj, List.take_append_drop]
  have h2 : ∀ y, ((l.filter (eqX y)).length : Int) = (((l.take j).filter (eqX y)).length : Int) + (if eqX y l[j] = true then 1 else 0) + (((l.drop (j + 1)).filter (eqX y)).length : Int) := fun y => by
    conv => lhs; rw [hl, List.filter_append, List.length_append, List.filter_cons]
    split <;> simp <;> omega
  have h1 : ∀ y, (((l.eraseIdx j).filter (eqX y)).length : Int) = (((l.take j).filter (eqX y)).length : Int) + (((l.drop (j + 1)).filter (eqX y)).length : Int) := fun y => by
    rw [List.eraseIdx_eq_take_drop_succ, List.filter_append, List.length_append]
    omega
  have hs : eqX l[j] l[j] = true := (eqX_iff _ _).2 rfl
  constructor
  · funext y
    unfold cnt upd
    show (((l.eraseIdx j).filter (eqX y)).length : Int) = if eqX y l[j] = true then ((l.filter (eqX l[j])).length : Int) - 1 else ((l.filter (eqX y)).length : Int)
    rw [h1 y, h2 l[j], if_pos hs]
    by_cases e : eqX y l[j] = true
    · have := (eqX_iff y l[j]).1 e
      rw [if_pos e, this]
      omega
    · rw [if_neg e, h2 y, if_neg e]
      omega
  · unfold cnt
    rw [h2 l[j], if_pos hs]
    omega
theorem send_spec (l : List S28) (x : S28) : ((sendI l x).2 = 0 ∧ (sendI l x).1 = l ++ [x]) ∨ ((sendI l x).2 ≠ 0 ∧ (sendI l x).1 = l) := by
  unfold sendI
  split
  · split
    · exact .inr ⟨by simp, rfl⟩
    · split
      · exact .inr ⟨by simp, rfl⟩
      · exact .inl ⟨rfl, rfl⟩
  · exact .inr ⟨by simp, rfl⟩
structure KI (b : Nat) (w0 : World) (S : Nat → Prop) (g mb : Nat) (v : Value) (l : List S28) (w : World) : Prop where
  n : NB S b w g v l
  m : MK w mb (cnt l)
  ns : ¬ S mb
  mb_ : mb < w.heap.size
  bm : b ≤ mb
  sl : ∀ k, S k → k < w.heap.size
  bel : Below b w0 w
  le : b ≤ w.heap.size
  len : l.length ≤ 200
section
variable {b g mb : Nat} {w0 w w1 : World} {S : Nat → Prop} {v v1 : Value} {l l1 : List S28}
theorem KI.below (h : KI b w0 S g mb v l w) (hb : Below w.heap.size w w1) : KI b w0 S g mb v l w1 :=
  ⟨h.n.step fun k _ hlt => hb.block k hlt, h.m.same (hb.block mb h.mb_), h.ns, Nat.lt_of_lt_of_le h.mb_ hb.size, h.bm, fun k hk => Nat.lt_of_lt_of_le (h.sl k hk) hb.size, h.bel.trans (hb.mono h.le), Nat.le_trans h.le hb.size, h.len⟩
end
theorem But.below {b0 mb : Nat} {w w1 w2 : World} (h : Below b0 w w1) (hk : But mb w1 w2) (hm : b0 ≤ mb) : Below b0 w w2 :=
  ⟨hk.2.2.1.trans h.os, hk.2.2.2.1.trans h.tape, hk.2.2.2.2.trans h.output, by rw [hk.2.1]; exact h.size, fun k hlt => (hk.1 k (by omega)).trans (h.block k hlt)⟩
/-- The net has gone on, the map not yet. -/
structure KM (b : Nat) (w0 : World) (S : Nat → Prop) (g mb : Nat) (v : Value) (l1 l : List S28) (w : World) : Prop where
  n : NB S b w g v l1
  m : MK w mb (cnt l)
  ns : ¬ S mb
  sl : ∀ k, S k → k < w.heap.size
  mb_ : mb < w.heap.size
  bel : Below b w0 w
  le : b ≤ w.heap.size
  bm : b ≤ mb
section
variable {b g mb : Nat} {w0 w w1 w2 : World} {S : Nat → Prop} {v v1 : Value} {l l1 : List S28}
theorem KI.nstep (h : KI b w0 S g mb v l w) (hn : NB (fun k => S k ∨ w.heap.size ≤ k) b w1 g v1 l1) (hk : Kept w w1 S) (hb : Below b w w1) : KM b w0 (fun k => (S k ∨ w.heap.size ≤ k) ∧ k < w1.heap.size) g mb v1 l1 l w1 :=
  ⟨hn.bound, h.m.same (hk.2 mb h.mb_ h.ns), fun hs => hs.1.elim h.ns (fun hs => by have := h.mb_; omega), fun k hk => hk.2, Nat.lt_of_lt_of_le h.mb_ hk.1, h.bel.trans hb, Nat.le_trans h.le hb.size, h.bm⟩
theorem KM.below (h : KM b w0 S g mb v l1 l w) (hb : Below w.heap.size w w1) : KM b w0 S g mb v l1 l w1 :=
  ⟨h.n.step fun k _ hlt => hb.block k hlt, h.m.same (hb.block mb h.mb_), h.ns, fun k hk => Nat.lt_of_lt_of_le (h.sl k hk) hb.size, Nat.lt_of_lt_of_le h.mb_ hb.size, h.bel.trans (hb.mono h.le), Nat.le_trans h.le hb.size, h.bm⟩
theorem KM.fin (h : KM b w0 S g mb v l1 l w1) (len : l1.length ≤ 200) (hb : But mb w1 w2) (m : MK w2 mb (cnt l1)) : KI b w0 S g mb v l1 w2 :=
  ⟨h.n.step fun k hk _ => hb.1 k (fun e => h.ns (e ▸ hk)), m, h.ns, by rw [hb.2.1]; exact h.mb_, h.bm, fun k hk => by rw [hb.2.1]; exact h.sl k hk, But.below h.bel hb h.bm, by rw [hb.2.1]; exact h.le, len⟩
theorem KM.still (h : KM b w0 S g mb v l l w1) (len : l.length ≤ 200) : KI b w0 S g mb v l w1 := h.fin len (But.refl mb w1) h.m
end
theorem upd_self (f : S28 → Int) (x : S28) (m : Int) : upd f x m x = m := by
  unfold upd
  rw [if_pos ((eqX_iff x x).2 rfl)]
theorem eraseIdx_len (l : List S28) (j : Nat) (h : j < l.length) : (((l.eraseIdx j).length : Nat) : Int) = (l.length : Int) - 1 := by
  rw [List.length_eraseIdx, if_pos h]
  omega
theorem But.cell {mb : Nat} {w w1 : World} (h : But mb w w1) {k j : Nat} (hk : k ≠ mb) : w1.cell? ⟨k, j, none⟩ = w.cell? ⟨k, j, none⟩ := by
  unfold World.cell?
  simp only [h.1 k hk]
theorem cnt_range (l : List S28) (x : S28) (h : l.length ≤ 200) : 0 ≤ cnt l x ∧ cnt l x ≤ 200 := by
  unfold cnt
  have := List.length_filter_le (eqX x) l
  omega
theorem cnt_cons (x : S28) (r : List S28) : cnt r = upd (cnt (x :: r)) x (cnt (x :: r) x - 1) ∧ 1 ≤ cnt (x :: r) x := by
  have := cnt_erase (x :: r) 0 (by simp)
  have e : rd_T28 (x :: r) ((0 : Nat) : Int) = x := by simp [rd_T28, List.getD_eq_getElem?_getD]
  rw [e] at this
  simpa using this
theorem row_at {S : Nat → Prop} {w : World} {b n c e : Nat} {A : Option Addr} {l : List S28} (h : Kd.R k28 e w b S (.slice A n c) l) (hn : n = l.length) (i : Nat) (hi : i < l.length) : ∃ q, A = some ⟨q, 0, none⟩ ∧ b ≤ q ∧ q < w.heap.size ∧ w.cell? ⟨q, i * 3, none⟩ = some (.int .i64 (rd_T28 l (i : Int)).f0) ∧ w.cell? ⟨q, i * 3 + 1, none⟩ = some (.int .i64 (rd_T28 l (i : Int)).f1) ∧ w.cell? ⟨q, i * 3 + 2, none⟩ = some (.string (rd_T28 l (i : Int)).f2) := by
  subst hn
  obtain ⟨q, cur, hA, hq, hsz, hqb, _, hrd⟩ := (row_blk h).resolve_left (by omega)
  obtain ⟨f0, f1, f2⟩ := flat_at l i hi
  exact ⟨q, hA, hqb, blk_lt hq, (cell_of_row w q _ cur _ (0, 0) hq).trans ((hrd _ (by omega)).trans f0), (cell_of_row w q _ cur _ (0, 0) hq).trans ((hrd _ (by omega)).trans f1), (cell_of_row w q _ cur _ (0, 0) hq).trans ((hrd _ (by omega)).trans f2)⟩
/-- A row that lies behind b stays where nothing behind b is changed. -/
theorem row_step {w w1 : World} {b e : Nat} {v : Value} {l : List S28} {S : Nat → Prop} (h : Kd.R k28 e w b S v l) (hb : ∀ k, b ≤ k → k < w.heap.size → w1.heap[k]? = w.heap[k]?) : Kd.R k28 e w1 b (fun _ => True) v l :=
  Kd.R_mono (Kd.R_step (Kd.R_bound h) (fun k hk hlt => hb k hk.2.1 hlt)) (fun _ _ => trivial)
end Go.Proofs.Ytpnbeifbapcmdaa.Nk
