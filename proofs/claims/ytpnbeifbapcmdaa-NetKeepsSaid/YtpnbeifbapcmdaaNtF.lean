/- The laws' same and live, walked. -/
import Derived.Test.YtpnbeifbapcmdaaNtE
import Derived.Test.YtpnbeifbapcmdaaNtD
import Derived.Deep.RegionLawGrows
import Derived.Handy
import Derived.Deep.RegionLaw
import Derived.Lib.SliceRun
import Derived.Lib.Bytes
namespace Go.Proofs.Ytpnbeifbapcmdaa.Nt
open Go.RowKit Go.Proofs.Ytpnbeifbapcmdaa.PNetGoes Go.Proofs.YtpnbeifbapcmdaaW.PrintWords Go.Proofs.YtpnbeifbapcmdaaW.PrintLast Go.Proofs.YtpnbeifbapcmdaaW.PrintMore
set_option linter.unusedVariables false
set_option linter.unusedSimpArgs false
attribute [local go_sem] max2_int min2_int max_two min_two
theorem row_blk {S : Nat → Prop} {w : World} {b n c : Nat} {A : Option Addr} {l : List S28} {e : Nat} (h : Kd.R k28 e w b S (.slice A n c) l) : n = 0 ∨ ∃ q cur, A = some ⟨q, 0, none⟩ ∧ w.heap[q]? = some (.cells cur e (0, 0)) ∧ n * 3 ≤ cur.size ∧ b ≤ q ∧ S q ∧ ∀ t, t < n * 3 → cur[t]? = (flat l)[t]? := by
  obtain ⟨h1, hl, ho⟩ := row_iff.1 h
  rcases ho with ⟨a1, _⟩ | ⟨g, cap, cur, a1, a2, a3, a4, a5, a6, a7⟩
  · injection a1 with _ a1 _
    exact .inl a1
  · injection a1 with b1 b2 b3
    refine .inr ⟨g, cur, b1, a3, by omega, a2, h1 g (by rw [b1]; rfl), fun t ht => ?_⟩
    rw [← a7, List.getElem?_take, if_pos (by omega), Array.getElem?_toList]
theorem flat_at (l : List S28) (i : Nat) (hi : i < l.length) : (flat l)[i * 3]? = some (.int .i64 (rd_T28 l (i : Int)).f0) ∧ (flat l)[i * 3 + 1]? = some (.int .i64 (rd_T28 l (i : Int)).f1) ∧ (flat l)[i * 3 + 2]? = some (.string (rd_T28 l (i : Int)).f2) := by
  have e : rd_T28 l (i : Int) = l[i] := by simp [rd_T28, List.getD_eq_getElem?_getD, List.getElem?_eq_getElem hi]
  have hc := chunk l i l[i] (List.getElem?_eq_getElem hi)
  rw [e]
  have h : ∀ k u, (cel l[i])[k]? = some u → (flat l)[i * 3 + k]? = some u := fun k u hu => by
    rw [← hc, List.getElem?_take, List.getElem?_drop] at hu
    split at hu
    · exact hu
    · cases hu
  exact ⟨h 0 _ rfl, h 1 _ rfl, h 2 _ rfl⟩
set_option maxHeartbeats 4000000 in
set_option maxRecDepth 100000 in
theorem same_calls (S T : Nat → Prop) (b b2 g gx : Nat) (v vx : Value) (l : List S28) (w : World) (h : NB S b w g v l) (hx : RB T b2 w gx vx l) (hl : l.length ≤ 200) :
    Calls Try.prog 20 #[.pointer (some ⟨g, 0, none⟩), .pointer (some ⟨gx, 0, none⟩)] w fun e w' => e = .returned (.bool true) ∧ Below w.heap.size w w' := by
  obtain ⟨Ax, cx, rfl⟩ := Kd.R_slice hx.2.2.2
  have H := Aside0.mk h
  have HX := Aside0.mk hx
  have HL := Aside0.mk hl
  have HRX := Aside0.mk (Kd.R_reads' hx.2.2.2)
  clear h hx
  go_enter Try.func20, Try.ntmps20
  go_wp2_with fail
  refine (all_calls S b g v l w H.out (by have := HL.out; omega)).mono ?_
  rintro _ w1 ⟨A', c', rfl, h1, h2⟩
  have H1 := Aside0.mk h1
  have H2 := Aside0.mk h2
  have hn1 := h1
  have HN1 : Aside0 (NB S b w1 g v l) := ⟨H.out.step fun k _ hlt => h2.block k hlt⟩
  have hcx : ∀ W : World, Below w.heap.size w W → W.cell? ⟨gx, 0, none⟩ = some (.slice Ax l.length cx) := fun W hW => (blk_cell ((hW.block gx (blk_lt HX.out.2.2.1)).trans HX.out.2.2.1) 0).trans rfl
  have HCX := Aside0.mk hcx
  have hcx1 := hcx w1 h2
  clear h1 h2 hn1 hcx
  go_wp2_with fail
  refine (len_calls S b g v l w1 HN1.out).mono ?_
  rintro _ _ ⟨rfl, rfl⟩
  go_wp2_with fail
  have hrel0 : l.length = 0 ∨ ∃ q cur, A' = some ⟨q, 0, none⟩ ∧ w1.heap[q]? = some (.cells cur 28 (0, 0)) ∧ l.length * 3 ≤ cur.size ∧ w.heap.size ≤ q ∧ ∀ t, 0 * 3 ≤ t → t < l.length * 3 → cur[t]? = (flat l)[t]? := by
    rcases row_blk H1.out with h | ⟨q, cur, h1, h2, h3, h4, _, h5⟩
    · exact .inl h
    · exact .inr ⟨q, cur, h1, h2, h3, h4, fun t _ ht => h5 t ht⟩
  have HR0 := Aside0.mk hrel0
  clear hrel0 hcx1
  go_loopg [26] l.length (fun kq v26 w' => ∃ i : Nat, i ≤ l.length ∧ kq = l.length - i ∧ v26 = .int .i64 (i : Int) ∧ Aside0 (Below w.heap.size w w') ∧ Aside0 (l.length = 0 ∨ ∃ q cur, A' = some ⟨q, 0, none⟩ ∧ w'.heap[q]? = some (.cells cur 28 (0, 0)) ∧ l.length * 3 ≤ cur.size ∧ w.heap.size ≤ q ∧ ∀ t, i * 3 ≤ t → t < l.length * 3 → cur[t]? = (flat l)[t]?))
  case atStart => exact ⟨0, by omega, rfl, rfl, H2, HR0⟩
  case round =>
    obtain ⟨i, hi, rfl, rfl, HB, HQ⟩ := hrel
    by_cases c1 : i < l.length
    · have hw1 : IntKind.i64.wrap ((i : Int) + 1) = (i : Int) + 1 := by rw [IntKind.wrap_i64]; have := HL.out; omega
      obtain ⟨q, cur, hA, hq, hsz, hqb, hrd⟩ := HQ.out.resolve_left (by omega)
      subst hA
      obtain ⟨f0, f1, f2⟩ := flat_at l i c1
      obtain ⟨qx, curx, eA, hqx0, hszx, _, _, hrdx⟩ := (row_blk HX.out.2.2.2).resolve_left (by omega)
      subst eA
      have hqx := (HB.out.block qx (blk_lt hqx0)).trans hqx0
      obtain ⟨k0, k1, k2⟩ := flat_at l i c1
      have hgc := HCX.out wr HB.out
      obtain ⟨x, hx⟩ : ∃ x, x = rd_T28 l (i : Int) := ⟨_, rfl⟩
      rw [← hx] at f0 f1 f2 k0 k1 k2
      have x0 : wr.cell? ⟨qx, i * 3, none⟩ = some (.int .i64 x.f0) := (cell_of_row wr qx _ curx 45 (0, 0) hqx).trans ((hrdx _ (by omega)).trans k0)
      have x1 : wr.cell? ⟨qx, i * 3 + 1, none⟩ = some (.int .i64 x.f1) := (cell_of_row wr qx _ curx 45 (0, 0) hqx).trans ((hrdx _ (by omega)).trans k1)
      have x2 : wr.cell? ⟨qx, i * 3 + 2, none⟩ = some (.string x.f2) := (cell_of_row wr qx _ curx 45 (0, 0) hqx).trans ((hrdx _ (by omega)).trans k2)
      clear k0 k1 k2 hqx hqx0 hszx hrdx
      have q0 : wr.cell? ⟨q, i * 3, none⟩ = some (.int .i64 x.f0) := (cell_of_row wr q _ cur 28 (0, 0) hq).trans ((hrd _ (by omega) (by omega)).trans f0)
      have q1 : wr.cell? ⟨q, i * 3 + 1, none⟩ = some (.int .i64 x.f1) := (cell_of_row wr q _ cur 28 (0, 0) hq).trans ((hrd _ (by omega) (by omega)).trans f1)
      have q2 : wr.cell? ⟨q, i * 3 + 2, none⟩ = some (.string x.f2) := (cell_of_row wr q _ cur 28 (0, 0) hq).trans ((hrd _ (by omega) (by omega)).trans f2)
      have qf : wr.frozen? ⟨q, i * 3 + 1, none⟩ = false := blk_frozen hq _
      have HQB := Aside0.mk (And.intro hq (And.intro hsz (And.intro hqb hrd)))
      have C1 := Aside0.mk c1
      have hlt : (i < l.length) = True := eq_true c1
      have hlt2 : ((i : Int) < (l.length : Int)) = True := eq_true (by omega)
      clear f0 f1 f2 hx hq hsz hqb hrd
      go_wp2_with fail
      go_quiet (fail)
      revert nq; intro n1
      have hd : (wr.drewN n1).heap = wr.heap := rfl
      have HQD : Aside0 ((wr.drewN n1).heap[q]? = some (.cells cur 28 (0, 0))) := ⟨HQB.out.1⟩
      have HBD : Aside0 (Below w.heap.size w (wr.drewN n1)) := ⟨pw_below_drewN HB.out n1⟩
      have p1 : (wr.drewN n1).cell? ⟨q, i * 3 + 1, none⟩ = some (.int .i64 x.f1) := q1
      have pf : (wr.drewN n1).frozen? ⟨q, i * 3 + 1, none⟩ = false := qf
      clear hd
      generalize wr.drewN n1 = wd at *
      go_wp2_with fail
      go_roundg (l.length - (i + 1))
      case measure =>
        have := C1.out
        omega
      case rel =>
        refine ⟨i + 1, by have := C1.out; omega, rfl, rfl, ⟨below_set HBD.out HQB.out.2.2.1⟩, ⟨.inr ⟨q, cur.setIfInBounds (i * 3 + 1) (.int .i64 99), rfl, blk_set HQD.out _ _, by simpa using HQB.out.2.1, HQB.out.2.2.1, fun t h1 h2 => ?_⟩⟩⟩
        rw [Array.getElem?_setIfInBounds_ne (by omega)]
        exact HQB.out.2.2.2 t (by omega) h2
    · obtain rfl : i = l.length := by omega
      go_wp2_with fail
      go_ret
      exact ⟨rfl, HB.out⟩
set_option maxRecDepth 100000 in
theorem new_calls (w : World) :
    Calls Try.prog 10 #[] w fun e w' => ∃ g, e = .returned (.pointer (some ⟨g, 0, none⟩)) ∧ NB (fun k => w.heap.size ≤ k ∧ k < w'.heap.size) w.heap.size w' g (.slice none 0 0) [] ∧ Below w.heap.size w w' := by
  go_enter Try.func10, Try.ntmps10
  go_wp2
  go_ret
  refine ⟨_, rfl, ⟨by simp, by simp, by simpa using heap_alloc_new _ _, Kd.R_nil _ _ _ _ _⟩, ?_⟩
  repeat (first | exact Below.refl _ _ | apply below_alloc | apply below_drew1)
def cut (S : Nat → Prop) (w : World) : Nat → Prop := fun k => S k ∧ k < w.heap.size
set_option maxHeartbeats 4000000 in
set_option maxRecDepth 100000 in
theorem live_calls (w : World) :
    Calls Try.prog 9 #[] w fun e w' => e = .returned (.bool true) ∧ Below w.heap.size w w' := by
  go_enter Try.func9, Try.ntmps9
  go_wp2_with fail
  refine (new_calls w).mono ?_
  rintro _ w1 ⟨g, rfl, h1, hb1⟩
  have H1 := Aside0.mk h1
  have HB1 := Aside0.mk hb1
  clear h1 hb1
  go_wp2_with fail
  refine (send_calls _ w.heap.size g _ [] ⟨1, 2, ⟨#[97]⟩⟩ w1 H1.out HB1.out.size (by decide)).mono ?_
  rintro _ w2 ⟨v2, rfl, h2, _, hb2⟩
  have HB2 := Aside0.mk (HB1.out.trans hb2)
  have H2 := Aside0.mk h2
  clear h2 hb2
  rw [show sendI [] ⟨1, 2, ⟨#[97]⟩⟩ = ([⟨1, 2, ⟨#[97]⟩⟩], 0) from rfl] at *
  go_wp2_with fail
  refine (send_calls _ w.heap.size g _ [⟨1, 2, ⟨#[97]⟩⟩] ⟨2, 1, ⟨#[98]⟩⟩ w2 H2.out HB2.out.size (by decide)).mono ?_
  rintro _ w3 ⟨v3, rfl, h3, _, hb3⟩
  have HB3 := Aside0.mk (HB2.out.trans hb3)
  have H3 := Aside0.mk h3
  clear h3 hb3
  rw [show sendI [⟨1, 2, ⟨#[97]⟩⟩] ⟨2, 1, ⟨#[98]⟩⟩ = ([⟨1, 2, ⟨#[97]⟩⟩, ⟨2, 1, ⟨#[98]⟩⟩], 0) from rfl] at *
  go_wp2_with fail
  refine (double_calls _ w.heap.size g _ [⟨1, 2, ⟨#[97]⟩⟩, ⟨2, 1, ⟨#[98]⟩⟩] 0 w3 H3.out HB3.out.size (by decide)).mono ?_
  rintro _ w4 ⟨v4, rfl, h4, _, hb4⟩
  have HB4 := Aside0.mk (HB3.out.trans hb4)
  have H4 := Aside0.mk h4
  clear h4 hb4
  rw [show doubleI [⟨1, 2, ⟨#[97]⟩⟩, ⟨2, 1, ⟨#[98]⟩⟩] 0 = ([⟨1, 2, ⟨#[97]⟩⟩, ⟨2, 1, ⟨#[98]⟩⟩, ⟨1, 2, ⟨#[97]⟩⟩], 0) from rfl] at *
  go_wp2_with fail
  refine (take_calls _ w.heap.size g _ [⟨1, 2, ⟨#[97]⟩⟩, ⟨2, 1, ⟨#[98]⟩⟩, ⟨1, 2, ⟨#[97]⟩⟩] 1 w4 H4.out HB4.out.size (by decide)).mono ?_
  rintro _ w5 ⟨v5, rfl, h5, _, hb5⟩
  have HB5 := Aside0.mk (HB4.out.trans hb5)
  have H5 := Aside0.mk h5
  clear h5 hb5
  rw [show takeI [⟨1, 2, ⟨#[97]⟩⟩, ⟨2, 1, ⟨#[98]⟩⟩, ⟨1, 2, ⟨#[97]⟩⟩] 1 = ([⟨1, 2, ⟨#[97]⟩⟩, ⟨1, 2, ⟨#[97]⟩⟩], ⟨2, 1, ⟨#[98]⟩⟩, 0) from rfl] at *
  go_wp2_with fail
  have hbl := below_alloc (Below.refl w5.heap.size w5) (.cells #[.int .i64 2, .int .i64 1, .string ⟨#[98]⟩] 28)
  have h6 : NB _ w.heap.size (w5.alloc (.cells #[.int .i64 2, .int .i64 1, .string ⟨#[98]⟩] 28)) g v5 [⟨1, 2, ⟨#[97]⟩⟩, ⟨1, 2, ⟨#[97]⟩⟩] := H5.out.step fun k _ hlt => hbl.block k hlt
  have H6 := Aside0.mk h6
  have HB6 := Aside0.mk (HB5.out.trans (hbl.mono HB5.out.size))
  have hbx := heap_alloc_new w5 (.cells #[.int .i64 2, .int .i64 1, .string ⟨#[98]⟩] 28)
  have HBX := Aside0.mk hbx
  obtain ⟨zz, hzz⟩ : ∃ zz, zz = w5.heap.size := ⟨_, rfl⟩
  rw [← hzz] at hbx ⊢
  have HBX := Aside0.mk hbx
  clear h6 hbl hbx hzz
  generalize w5.alloc (.cells #[.int .i64 2, .int .i64 1, .string ⟨#[98]⟩] 28) = w6 at *
  refine (all_calls _ w.heap.size g _ [⟨1, 2, ⟨#[97]⟩⟩, ⟨1, 2, ⟨#[97]⟩⟩] w6 H6.out (by decide)).mono ?_
  rintro _ w7 ⟨A7, c7, rfl, h7, hb7⟩
  have HBX7 := (hb7.block zz (blk_lt HBX.out)).trans HBX.out
  have z2 : w7.cell? ⟨zz, 2, none⟩ = some (.string ⟨#[98]⟩) := (blk_cell HBX7 2).trans rfl
  have h8 : NB _ w.heap.size w7 g v5 [⟨1, 2, ⟨#[97]⟩⟩, ⟨1, 2, ⟨#[97]⟩⟩] := H6.out.step fun k _ hlt => hb7.block k hlt
  have H8 := Aside0.mk h8
  have HB7 := Aside0.mk (HB6.out.trans (hb7.mono HB6.out.size))
  obtain ⟨q, cur, rfl, hq, hsz, _, _, hrd⟩ := (row_blk h7).resolve_left (by decide)
  have q0 : w7.cell? ⟨q, 0, none⟩ = some (.int .i64 1) := (cell_of_row w7 q _ cur 28 (0, 0) hq).trans ((hrd 0 (by decide)).trans rfl)
  have q1 : w7.cell? ⟨q, 1, none⟩ = some (.int .i64 2) := (cell_of_row w7 q _ cur 28 (0, 0) hq).trans ((hrd 1 (by decide)).trans rfl)
  have q2 : w7.cell? ⟨q, 2, none⟩ = some (.string ⟨#[97]⟩) := (cell_of_row w7 q _ cur 28 (0, 0) hq).trans ((hrd 2 (by decide)).trans rfl)
  have q3 : w7.cell? ⟨q, 3, none⟩ = some (.int .i64 1) := (cell_of_row w7 q _ cur 28 (0, 0) hq).trans ((hrd 3 (by decide)).trans rfl)
  have q4 : w7.cell? ⟨q, 4, none⟩ = some (.int .i64 2) := (cell_of_row w7 q _ cur 28 (0, 0) hq).trans ((hrd 4 (by decide)).trans rfl)
  have q5 : w7.cell? ⟨q, 5, none⟩ = some (.string ⟨#[97]⟩) := (cell_of_row w7 q _ cur 28 (0, 0) hq).trans ((hrd 5 (by decide)).trans rfl)
  clear h7 hb7 HBX7 h8 hq hsz hrd
  have HND : Aside0 (∀ n, NB _ w.heap.size (w7.drewN n) g v5 [⟨1, 2, ⟨#[97]⟩⟩, ⟨1, 2, ⟨#[97]⟩⟩]) := ⟨fun n => H8.out.step fun _ _ _ => rfl⟩
  go_wp2_with fail
  go_quiet (exact Calls.quiet_of_same ((len_calls _ w.heap.size g v5 _ _ (HND.out _)).mono (fun e w' h => ⟨h.1, h.2.symm⟩)))
  go_wp2_with fail
  go_ret
  exact ⟨rfl, pw_below_drewN HB7.out _⟩
end Go.Proofs.Ytpnbeifbapcmdaa.Nt
