import Derived.Test.YtpnbeifbapcmdaaNkB
import Derived.Deep.RegionLawGrows
import Derived.Handy
import Derived.StillTailTactics
import Derived.MapKept
import Derived.WideKeyEntry
import Derived.Deep.RegionLaw
import Derived.Lib.SliceRun
import Derived.Lib.Bytes
namespace Go.Proofs.Ytpnbeifbapcmdaa.Nk
open Go.Proofs.Ytpnbeifbapcmdaa.Nt Go.MapKept Go.RowKit Go.Proofs.Ytpnbeifbapcmdaa.PNetGoes Go.Proofs.YtpnbeifbapcmdaaW.PrintWords Go.Proofs.YtpnbeifbapcmdaaW.PrintLast Go.Proofs.YtpnbeifbapcmdaaW.PrintMore
set_option linter.unusedVariables false
set_option linter.unusedSimpArgs false
attribute [local go_sem] max2_int min2_int max_two min_two
set_option maxHeartbeats 8000000 in
set_option maxRecDepth 100000 in
theorem keeps_walk (A0 : Option Addr) (c0 : Nat) (l0 : List SOp) (w : World) (hr0 : Kd.C kOp w A0 l0.length l0) (hc0 : l0.length ≤ c0) (h300 : l0.length ≤ 300) :
    Calls Try.prog 3 #[.slice A0 l0.length c0] w fun e w' => e = .returned (.bool true) ∧ Below w.heap.size w w' := by
  have HR := Aside0.mk hr0
  have HC := Aside0.mk hc0
  have k1 : ¬ ((300 : Int) < (l0.length : Int)) := by omega
  have HLL := Aside0.mk h300
  clear hr0 hc0 h300
  have hmm := @run_makeMap Try.prog
  go_enter Try.func3, Try.ntmps3
  go_wp2_with fail
  refine (live_calls w).mono ?_
  rintro _ w1 ⟨rfl, hb1⟩
  have HB1 := Aside0.mk hb1
  clear hb1
  go_wp2_with fail
  refine (new_calls w1).mono ?_
  rintro _ w2 ⟨g0, rfl, hg, hb2⟩
  have HB2 := Aside0.mk (HB1.out.trans (hb2.mono HB1.out.size))
  have HG := Aside0.mk hg
  have HB12 := Aside0.mk hb2
  clear hg hb2
  go_wp2_with fail
  clear hmm
  have hbl := below_alloc (Below.refl w2.heap.size w2) (.map #[] 0)
  have hgi : KI w.heap.size w (fun k => w1.heap.size ≤ k ∧ k < w2.heap.size) g0 w2.heap.size (.slice none 0 0) [] (w2.alloc (.map #[] 0)) := by
    have hn : NB (fun k => w1.heap.size ≤ k ∧ k < w2.heap.size) w.heap.size w2 g0 (.slice none 0 0) [] := ⟨HG.out.1, Nat.le_trans HB1.out.size HG.out.2.1, HG.out.2.2.1, Kd.R_nil _ _ _ _ _⟩
    refine ⟨hn.step fun k _ hlt => hbl.block k hlt, MK.new w2, fun hk => by omega, by simp, HB2.out.size, fun k hk => by simp; omega, HB2.out.trans (hbl.mono HB2.out.size), by have := HB2.out.size; simp; omega, by decide⟩
  have HGI := Aside0.mk hgi
  clear hgi hbl HG HB12
  generalize hgx : w2.heap.size = mb at *
  generalize hw3 : w2.alloc (.map #[] 0) = w3 at *
  clear hgx hw3 HB1 HB2
  generalize g0 = g at *
  go_loopg [6, 31] l0.length (fun kq v6 v31 w' => ∃ (i : Nat) (S : Nat → Prop) (v : Value) (l : List S28), i ≤ l0.length ∧ kq = l0.length - i ∧ v6 = .int .i64 (l.length : Int) ∧ v31 = .int .i64 (i : Int) ∧ Aside0 (KI w.heap.size w S g mb v l w'))
  case atStart => exact ⟨0, _, _, _, by omega, rfl, rfl, rfl, HGI⟩
  case round =>
    clear HGI
    obtain ⟨i, S, v, l, hi, rfl, rfl, rfl, HI⟩ := hrel
    have hwl : IntKind.i64.wrap ((l.length : Int) + 1) = (l.length : Int) + 1 := by rw [IntKind.wrap_i64]; have := HI.out.len; omega
    by_cases c1 : i < l0.length
    · have hw1 : IntKind.i64.wrap ((i : Int) + 1) = (i : Int) + 1 := by rw [IntKind.wrap_i64]; have := HLL.out; omega
      obtain ⟨ad, x, _, eA, x0, x1, x2, x3, x4⟩ := at_Op (Kd.C_below HR.out HI.out.bel) (i : Int) (by omega) (by omega)
      rw [Int.toNat_natCast] at x0 x1 x2 x3 x4
      subst eA
      obtain ⟨d, ii, ⟨f0, f1, f2⟩⟩ := x
      simp only [] at x0 x1 x2 x3 x4
      have C1 := Aside0.mk c1
      have hbx := heap_alloc_new wr (.cells #[.int .i64 d, .int .i64 ii, .int .i64 f0, .int .i64 f1, .string f2] 30)
      have HIB := Aside0.mk (HI.out.below (below_alloc (Below.refl wr.heap.size wr) (.cells #[.int .i64 d, .int .i64 ii, .int .i64 f0, .int .i64 f1, .string f2] 30)))
      have HBX := Aside0.mk hbx
      have hgb := fun k (hk : S k) => HI.out.sl k hk
      have HNB : Aside0 (¬ S wr.heap.size) := ⟨fun h => by have := hgb _ h; omega⟩
      have HGM : Aside0 (wr.heap.size ≠ mb) := ⟨fun h => by have := HI.out.mb_; omega⟩
      clear hbx hgb
      by_cases d0 : d = 0
      · subst d0
        go_wp2_with fail
        have bx0 : (wr.alloc (.cells #[.int .i64 0, .int .i64 ii, .int .i64 f0, .int .i64 f1, .string f2] 30)).cell? ⟨wr.heap.size, 0, none⟩ = some (.int .i64 0) := (blk_cell HBX.out 0).trans rfl
        have bx1 : (wr.alloc (.cells #[.int .i64 0, .int .i64 ii, .int .i64 f0, .int .i64 f1, .string f2] 30)).cell? ⟨wr.heap.size, 1, none⟩ = some (.int .i64 ii) := (blk_cell HBX.out 1).trans rfl
        have bx2 : (wr.alloc (.cells #[.int .i64 0, .int .i64 ii, .int .i64 f0, .int .i64 f1, .string f2] 30)).cell? ⟨wr.heap.size, 2, none⟩ = some (.int .i64 f0) := (blk_cell HBX.out 2).trans rfl
        have bx3 : (wr.alloc (.cells #[.int .i64 0, .int .i64 ii, .int .i64 f0, .int .i64 f1, .string f2] 30)).cell? ⟨wr.heap.size, 3, none⟩ = some (.int .i64 f1) := (blk_cell HBX.out 3).trans rfl
        have bx4 : (wr.alloc (.cells #[.int .i64 0, .int .i64 ii, .int .i64 f0, .int .i64 f1, .string f2] 30)).cell? ⟨wr.heap.size, 4, none⟩ = some (.string f2) := (blk_cell HBX.out 4).trans rfl
        generalize wr.alloc (.cells #[.int .i64 0, .int .i64 ii, .int .i64 f0, .int .i64 f1, .string f2] 30) = wb at HIB HBX bx0 bx1 bx2 bx3 bx4 ⊢
        generalize wr.heap.size = gb at HBX HNB HGM bx0 bx1 bx2 bx3 bx4 ⊢
        obtain ⟨fx, hfx⟩ : ∃ y, y = cnt l ⟨f0, f1, f2⟩ := ⟨_, rfl⟩
        have hwf : IntKind.i64.wrap (fx + 1) = fx + 1 := by rw [hfx, IntKind.wrap_i64]; have := cnt_range l ⟨f0, f1, f2⟩ HIB.out.len; omega
        have HFX := Aside0.mk hfx
        clear hfx
        rcases send_spec l ⟨f0, f1, f2⟩ with ⟨se0, se1⟩ | ⟨se0, se1⟩
        · refine (send_calls S w.heap.size g v l ⟨f0, f1, f2⟩ wb HIB.out.n HIB.out.le HIB.out.len).mono ?_
          rintro _ w4 ⟨v4, rfl, h1, h2, h3⟩
          rw [se1] at h1
          have HS := Aside0.mk (HIB.out.nstep h1 h2 h3)
          have p0 := blk_kept HBX.out h2 HNB.out
          have q0 : w4.drew.cell? ⟨gb, 2, none⟩ = some (.int .i64 f0) := (blk_cell p0 2).trans rfl
          have q1 : w4.drew.cell? ⟨gb, 3, none⟩ = some (.int .i64 f1) := (blk_cell p0 3).trans rfl
          have q2 : w4.drew.cell? ⟨gb, 4, none⟩ = some (.string f2) := (blk_cell p0 4).trans rfl
          clear h1 h2 h3 p0
          rw [se0]
          have hl1 : (((l ++ [(⟨f0, f1, f2⟩ : S28)]).length : Nat) : Int) = (l.length : Int) + 1 := by simp
          have HL1 := Aside0.mk hl1
          have HLEN := Aside0.mk (send_len l ⟨f0, f1, f2⟩ HIB.out.len)
          rw [se1] at HLEN
          clear hl1 se0 se1
          have hdr := Aside0.mk (HS.out.m.same rfl : MK w4.drew mb (cnt l))
          obtain ⟨cc, wY, wZ, e1, m1, bt1, e2, m2, bt2⟩ := hdr.out.step ⟨f0, f1, f2⟩ (fx + 1)
          have lk0 := hdr.out.lookup ⟨f0, f1, f2⟩
          have lk1 := m1.lookup ⟨f0, f1, f2⟩
          rw [← HFX.out] at e1 lk0 lk1
          simp only [kv] at e1 lk0 lk1
          have M2 := Aside0.mk m2
          clear m1 m2

          go_wp2_with fail
          have hHeld : (fun w' => w'.cell? ⟨gb, 2, none⟩ = some (.int .i64 f0) ∧ w'.cell? ⟨gb, 3, none⟩ = some (.int .i64 f1) ∧ w'.cell? ⟨gb, 4, none⟩ = some (.string f2) ∧ (Instr.lookup 26 (.map (some mb)) (.agg #[.int .i64 f0, .int .i64 f1, .string f2]) false).run Try.prog w' = .ok (.int .i64 fx) w') w4.drew := ⟨q0, q1, q2, lk0⟩
          refine wp_region_noPanic ?_
          refine wp_region_any (by kernel_rfl) ?_
          change wpAny _ _ _ _ _ _ _ (World.drew _)
          refine wpAny_of_T (S := (fun w' => w'.cell? ⟨gb, 2, none⟩ = some (.int .i64 f0) ∧ w'.cell? ⟨gb, 3, none⟩ = some (.int .i64 f1) ∧ w'.cell? ⟨gb, 4, none⟩ = some (.string f2) ∧ (Instr.lookup 26 (.map (some mb)) (.agg #[.int .i64 f0, .int .i64 f1, .string f2]) false).run Try.prog w' = .ok (.int .i64 fx) w')) (t := 7) _ _ _ _ ?_
          refine wpAnyT_take (i := 0) (oi := { dst := some 44, op := Op.move (Operand.tmp 5), type := 26, pos := "law.go:93", after := #[], guard := none }) (v := ?va0x1) rfl (by kernel_rfl) (by kernel_rfl) (by kernel_rfl) (by kernel_rfl) (fun _ _ _ h => h) (Or.inl ⟨by rfl, ?hya0x1⟩) hHeld ?resta0x1
          case hya0x1 =>
            intro w hSw
            try dsimp only at hSw
            go_simp
            all_goals with_reducible rfl
          (try simp only [Act.put, List.setIfInBounds_toArray, List.set_cons_zero, List.set_cons_succ])
          refine wpAnyT_take (i := 1) (oi := { dst := some 45, op := Op.fieldAddr 30 (Operand.tmp 8) 2, type := 0, pos := "law.go:93", after := #[], guard := none }) (v := ?va1x2) rfl (by kernel_rfl) (by kernel_rfl) (by kernel_rfl) (by kernel_rfl) (fun _ _ _ h => h) (Or.inl ⟨by rfl, ?hya1x2⟩) hHeld ?resta1x2
          case hya1x2 =>
            intro w hSw
            try dsimp only at hSw
            go_simp
            all_goals with_reducible rfl
          (try simp only [Act.put, List.setIfInBounds_toArray, List.set_cons_zero, List.set_cons_succ])
          refine wpAnyT_take (i := 2) (oi := { dst := some 46, op := Op.load 28 (Operand.tmp 45), type := 28, pos := "law.go:93", after := #[{ on := 1, ground := Ground.data }], guard := none }) (v := ?va2x3) rfl (by kernel_rfl) (by kernel_rfl) (by kernel_rfl) (by kernel_rfl) (fun _ _ _ h => h) (Or.inl ⟨by rfl, ?hya2x3⟩) hHeld ?resta2x3
          case hya2x3 =>
            intro w hSw
            try dsimp only at hSw
            go_simp
            all_goals with_reducible rfl
          (try simp only [Act.put, List.setIfInBounds_toArray, List.set_cons_zero, List.set_cons_succ])
          refine wpAnyT_take (i := 3) (oi := { dst := some 47, op := Op.lookup 26 (Operand.tmp 44) (Operand.tmp 46) false, type := 3, pos := "law.go:93", after := #[{ on := 0, ground := Ground.data }, { on := 2, ground := Ground.data }], guard := none }) (v := ?va3x4) rfl (by kernel_rfl) (by kernel_rfl) (by kernel_rfl) (by kernel_rfl) (fun _ _ _ h => h) (Or.inl ⟨by rfl, ?hya3x4⟩) hHeld ?resta3x4
          case hya3x4 =>
            intro w hSw
            try dsimp only at hSw
            go_simp
            all_goals with_reducible rfl
          (try simp only [Act.put, List.setIfInBounds_toArray, List.set_cons_zero, List.set_cons_succ])
          refine wpAnyT_take (i := 4) (oi := { dst := some 48, op := Op.binOp BinOp.add 3 (Operand.tmp 47) (Operand.const (Value.int IntKind.i64 1)) 3, type := 3, pos := "law.go:93", after := #[{ on := 3, ground := Ground.data }], guard := none }) (v := ?va4x5) rfl (by kernel_rfl) (by kernel_rfl) (by kernel_rfl) (by kernel_rfl) (fun _ _ _ h => h) (Or.inl ⟨by rfl, ?hya4x5⟩) hHeld ?resta4x5
          case hya4x5 =>
            intro w hSw
            try dsimp only at hSw
            go_simp
            all_goals with_reducible rfl
          (try simp only [Act.put, List.setIfInBounds_toArray, List.set_cons_zero, List.set_cons_succ])
          refine wpAnyT_one (i := 5) (o := { dst := some 49, op := Op.mapEntry 26 (Operand.tmp 44) (Operand.tmp 46), type := 0, pos := "law.go:93", after := #[{ on := 0, ground := Ground.data }, { on := 2, ground := Ground.data }, { on := 0, ground := Ground.phase }, { on := 1, ground := Ground.phase }, { on := 2, ground := Ground.phase }, { on := 3, ground := Ground.textOnly Departure.mapOpAssignEntry }, { on := 4, ground := Ground.textOnly Departure.mapOpAssignEntry }], guard := none }) rfl (by kernel_rfl) (fun KK hKK => ?_)
          go_simp
          have hHY : (fun w' => w'.cell? ⟨gb, 2, none⟩ = some (.int .i64 f0) ∧ w'.cell? ⟨gb, 3, none⟩ = some (.int .i64 f1) ∧ w'.cell? ⟨gb, 4, none⟩ = some (.string f2) ∧ (Instr.lookup 26 (.map (some mb)) (.agg #[.int .i64 f0, .int .i64 f1, .string f2]) false).run Try.prog w' = .ok (.int .i64 fx) w') wY := ⟨(But.cell bt1 HGM.out).trans (q0), (But.cell bt1 HGM.out).trans (q1), (But.cell bt1 HGM.out).trans (q2), lk1⟩
          refine hKK _ _ (fun _ => hHY) ?_
          clear hKK KK
          (try simp only [Act.put, List.setIfInBounds_toArray, List.set_cons_zero, List.set_cons_succ])
          refine wpAnyT_take (i := 6) (oi := { dst := some 50, op := Op.extract (Operand.tmp 49) 1, type := 3, pos := "law.go:93", after := #[{ on := 5, ground := Ground.data }], guard := none }) (v := ?va6x6) rfl (by kernel_rfl) (by kernel_rfl) (by kernel_rfl) (by kernel_rfl) (fun _ _ _ h => h) (Or.inl ⟨by rfl, ?hya6x6⟩) hHY ?resta6x6
          case hya6x6 =>
            intro w hSw
            try dsimp only at hSw
            go_simp
            all_goals with_reducible rfl
          (try simp only [Act.put, List.setIfInBounds_toArray, List.set_cons_zero, List.set_cons_succ])
          refine wpAnyT_one (i := 7) (o := { dst := none, op := Op.entryStore 26 (Operand.tmp 44) (Operand.tmp 50) (Operand.tmp 48), type := 0, pos := "law.go:93", after := #[{ on := 0, ground := Ground.data }, { on := 6, ground := Ground.data }, { on := 4, ground := Ground.data }, { on := 5, ground := Ground.chain }, { on := 0, ground := Ground.phase }, { on := 1, ground := Ground.phase }, { on := 2, ground := Ground.phase }, { on := 3, ground := Ground.phase }, { on := 4, ground := Ground.phase }, { on := 5, ground := Ground.phase }, { on := 6, ground := Ground.phase }], guard := none }) rfl (by kernel_rfl) (fun KK hKK => ?_)
          go_simp
          refine hKK _ _ (fun h => absurd rfl h) ?_
          clear hKK KK
          (try simp only [Act.put, List.setIfInBounds_toArray, List.set_cons_zero, List.set_cons_succ])
          refine wpAnyT_done (by kernel_rfl) ?_ _
          refine NoPanic.normal ?_

          have HZ := Aside0.mk (HS.out.fin HLEN.out ((show But mb w4 wY from bt1).trans bt2) (by rw [cnt_app, ← HFX.out]; exact M2.out))
          clear bt1 bt2 e1 e2 lk0 lk1 hHeld q0 q1 q2
          go_wp2_with fail
          refine (len_calls _ w.heap.size g _ _ _ HZ.out.n).mono ?_
          rintro _ _ ⟨rfl, rfl⟩
          rw [HL1.out]
          go_wp2_with fail
          go_roundg (l0.length - (i + 1))
          case measure =>
            have := C1.out
            omega
          case rel => exact ⟨i + 1, _, _, _, by have := C1.out; omega, rfl, by rw [HL1.out], rfl, HZ⟩

        · refine (send_calls S w.heap.size g v l ⟨f0, f1, f2⟩ wb HIB.out.n HIB.out.le HIB.out.len).mono ?_
          rintro _ w4 ⟨v4, rfl, h1, h2, h3⟩
          rw [se1] at h1
          have HZ := Aside0.mk ((HIB.out.nstep h1 h2 h3).still HIB.out.len)
          clear h1 h2 h3 se1
          generalize (sendI l ⟨f0, f1, f2⟩).2 = sv at se0 ⊢
          go_wp2_with fail
          refine (len_calls _ w.heap.size g _ _ _ HZ.out.n).mono ?_
          rintro _ _ ⟨rfl, rfl⟩
          go_wp2_with fail
          go_roundg (l0.length - (i + 1))
          case measure =>
            have := C1.out
            omega
          case rel => exact ⟨i + 1, _, _, _, by have := C1.out; omega, rfl, rfl, rfl, HZ⟩
      · by_cases d1 : d = 1
        · subst d1
          go_wp2_with fail
          have bx0 : (wr.alloc (.cells #[.int .i64 1, .int .i64 ii, .int .i64 f0, .int .i64 f1, .string f2] 30)).cell? ⟨wr.heap.size, 0, none⟩ = some (.int .i64 1) := (blk_cell HBX.out 0).trans rfl
          have bx1 : (wr.alloc (.cells #[.int .i64 1, .int .i64 ii, .int .i64 f0, .int .i64 f1, .string f2] 30)).cell? ⟨wr.heap.size, 1, none⟩ = some (.int .i64 ii) := (blk_cell HBX.out 1).trans rfl
          have bx2 : (wr.alloc (.cells #[.int .i64 1, .int .i64 ii, .int .i64 f0, .int .i64 f1, .string f2] 30)).cell? ⟨wr.heap.size, 2, none⟩ = some (.int .i64 f0) := (blk_cell HBX.out 2).trans rfl
          have bx3 : (wr.alloc (.cells #[.int .i64 1, .int .i64 ii, .int .i64 f0, .int .i64 f1, .string f2] 30)).cell? ⟨wr.heap.size, 3, none⟩ = some (.int .i64 f1) := (blk_cell HBX.out 3).trans rfl
          have bx4 : (wr.alloc (.cells #[.int .i64 1, .int .i64 ii, .int .i64 f0, .int .i64 f1, .string f2] 30)).cell? ⟨wr.heap.size, 4, none⟩ = some (.string f2) := (blk_cell HBX.out 4).trans rfl
          generalize wr.alloc (.cells #[.int .i64 1, .int .i64 ii, .int .i64 f0, .int .i64 f1, .string f2] 30) = wb at HIB HBX bx0 bx1 bx2 bx3 bx4 ⊢
          generalize wr.heap.size = gb at HBX HNB HGM bx0 bx1 bx2 bx3 bx4 ⊢
          by_cases ct : ii < 0 ∨ (l.length : Int) ≤ ii
          · have ht : takeI l ii = (l, z28, 4) := by unfold takeI; rw [if_pos ct]
            clear ct
            refine (take_calls S w.heap.size g v l ii wb HIB.out.n HIB.out.le HIB.out.len).mono ?_
            rintro _ w4 ⟨v4, rfl, h1, h2, h3⟩
            rw [ht] at h1 ⊢
            have HZ4 := Aside0.mk ((HIB.out.nstep (h1.mono (fun k hk => .inl hk)) h2 h3).still HIB.out.len)
            clear h1 h2 h3 ht
            simp only [z28]
            have HZ := Aside0.mk (HZ4.out.below (below_alloc (Below.refl _ _) (.cells #[.int .i64 0, .int .i64 0, .string ⟨#[]⟩] 28)))
            go_wp2_with fail
            refine (len_calls _ w.heap.size g _ _ _ HZ.out.n).mono ?_
            rintro _ _ ⟨rfl, rfl⟩
            go_wp2_with fail
            go_roundg (l0.length - (i + 1))
            case measure =>
              have := C1.out
              omega
            case rel => exact ⟨i + 1, _, _, _, by have := C1.out; omega, rfl, rfl, rfl, HZ⟩

          · obtain ⟨j, rfl⟩ : ∃ j : Nat, ii = (j : Int) := ⟨ii.toNat, by omega⟩
            have hj : j < l.length := by omega
            have ht : takeI l (j : Int) = (l.eraseIdx j, rd_T28 l (j : Int), 0) := by unfold takeI; rw [if_neg ct, Int.toNat_natCast]
            clear ct
            obtain ⟨ce1, ce2⟩ := cnt_erase l j hj
            obtain ⟨⟨t0, t1, t2⟩, hx⟩ : ∃ x, x = rd_T28 l (j : Int) := ⟨_, rfl⟩
            rw [← hx] at ht ce1 ce2
            obtain ⟨fx, hfx⟩ : ∃ y, y = cnt l ⟨t0, t1, t2⟩ := ⟨_, rfl⟩
            have hwf : IntKind.i64.wrap (fx - 1) = fx - 1 := by rw [hfx, IntKind.wrap_i64]; have := cnt_range l ⟨t0, t1, t2⟩ HIB.out.len; omega
            have HFX := Aside0.mk hfx
            clear hfx

            rw [← HFX.out] at ce1 ce2
            have hge : ¬ (fx - 1 < 0) := by omega
            have hwl2 : IntKind.i64.wrap ((l.length : Int) - 1) = (l.length : Int) - 1 := by rw [IntKind.wrap_i64]; have := HI.out.len; omega
            have HL1 := Aside0.mk (eraseIdx_len l j hj)
            have hle := take_len l (j : Int) HIB.out.len
            refine (take_calls S w.heap.size g v l (j : Int) wb HIB.out.n HIB.out.le HIB.out.len).mono ?_
            rintro _ w4 ⟨v4, rfl, h1, h2, h3⟩
            rw [ht] at h1 hle ⊢
            have HLEN := Aside0.mk hle
            have HS4 := Aside0.mk (HIB.out.nstep (h1.mono (fun k hk => .inl hk)) h2 h3)
            have HCE := Aside0.mk ce1
            clear h1 h2 h3 ht ce1 ce2 hx hle hj
            simp only []
            go_wp2_with fail
            have hal := below_alloc (Below.refl w4.heap.size w4) (.cells #[.int .i64 t0, .int .i64 t1, .string t2] 28)
            have hab := heap_alloc_new w4 (.cells #[.int .i64 t0, .int .i64 t1, .string t2] 28)
            have HS := Aside0.mk (HS4.out.below hal)
            have HGA : Aside0 (w4.heap.size ≠ mb) := ⟨fun h => by have := HS4.out.mb_; omega⟩
            clear hal
            generalize w4.alloc (.cells #[.int .i64 t0, .int .i64 t1, .string t2] 28) = w5 at HS hab ⊢
            generalize w4.heap.size = ga at hab HGA ⊢
            have q0 : w5.drew.cell? ⟨ga, 0, none⟩ = some (.int .i64 t0) := (blk_cell hab 0).trans rfl
            have q1 : w5.drew.cell? ⟨ga, 1, none⟩ = some (.int .i64 t1) := (blk_cell hab 1).trans rfl
            have q2 : w5.drew.cell? ⟨ga, 2, none⟩ = some (.string t2) := (blk_cell hab 2).trans rfl
            clear hab
            have hdr := Aside0.mk (HS.out.m.same rfl : MK w5.drew mb (cnt l))
            obtain ⟨cc, wY, wZ, e1, m1, bt1, e2, m2, bt2⟩ := hdr.out.step ⟨t0, t1, t2⟩ (fx - 1)
            have lk0 := hdr.out.lookup ⟨t0, t1, t2⟩
            have lk1 := m1.lookup ⟨t0, t1, t2⟩
            rw [← HFX.out] at e1 lk0 lk1
            simp only [kv] at e1 lk0 lk1
            have M2 := Aside0.mk m2
            clear m1 m2

            have lkZ := M2.out.lookup ⟨t0, t1, t2⟩
            rw [upd_self] at lkZ
            simp only [kv] at lkZ
            have z0 := (But.cell bt2 HGA.out).trans ((But.cell bt1 HGA.out).trans q0)
            have z1 := (But.cell bt2 HGA.out).trans ((But.cell bt1 HGA.out).trans q1)
            have z2 := (But.cell bt2 HGA.out).trans ((But.cell bt1 HGA.out).trans q2)
            have hHeld : (fun w' => w'.cell? ⟨ga, 0, none⟩ = some (.int .i64 t0) ∧ w'.cell? ⟨ga, 1, none⟩ = some (.int .i64 t1) ∧ w'.cell? ⟨ga, 2, none⟩ = some (.string t2) ∧ (Instr.lookup 26 (.map (some mb)) (.agg #[.int .i64 t0, .int .i64 t1, .string t2]) false).run Try.prog w' = .ok (.int .i64 fx) w') w5.drew := ⟨q0, q1, q2, lk0⟩
            refine wp_region_noPanic ?_
            refine wp_region_any (by kernel_rfl) ?_
            change wpAny _ _ _ _ _ _ _ (World.drew _)
            refine wpAny_of_T (S := (fun w' => w'.cell? ⟨ga, 0, none⟩ = some (.int .i64 t0) ∧ w'.cell? ⟨ga, 1, none⟩ = some (.int .i64 t1) ∧ w'.cell? ⟨ga, 2, none⟩ = some (.string t2) ∧ (Instr.lookup 26 (.map (some mb)) (.agg #[.int .i64 t0, .int .i64 t1, .string t2]) false).run Try.prog w' = .ok (.int .i64 fx) w')) (t := 6) _ _ _ _ ?_
            refine wpAnyT_take (i := 0) (oi := { dst := some 64, op := Op.move (Operand.tmp 5), type := 26, pos := "law.go:99", after := #[], guard := none }) (v := ?vb0x1) rfl (by kernel_rfl) (by kernel_rfl) (by kernel_rfl) (by kernel_rfl) (fun _ _ _ h => h) (Or.inl ⟨by rfl, ?hyb0x1⟩) hHeld ?restb0x1
            case hyb0x1 =>
              intro w hSw
              try dsimp only at hSw
              go_simp
              all_goals with_reducible rfl
            (try simp only [Act.put, List.setIfInBounds_toArray, List.set_cons_zero, List.set_cons_succ])
            refine wpAnyT_take (i := 1) (oi := { dst := some 65, op := Op.load 28 (Operand.tmp 9), type := 28, pos := "law.go:99", after := #[], guard := none }) (v := ?vb1x2) rfl (by kernel_rfl) (by kernel_rfl) (by kernel_rfl) (by kernel_rfl) (fun _ _ _ h => h) (Or.inl ⟨by rfl, ?hyb1x2⟩) hHeld ?restb1x2
            case hyb1x2 =>
              intro w hSw
              try dsimp only at hSw
              go_simp
              all_goals with_reducible rfl
            (try simp only [Act.put, List.setIfInBounds_toArray, List.set_cons_zero, List.set_cons_succ])
            refine wpAnyT_take (i := 2) (oi := { dst := some 66, op := Op.lookup 26 (Operand.tmp 64) (Operand.tmp 65) false, type := 3, pos := "law.go:99", after := #[{ on := 0, ground := Ground.data }, { on := 1, ground := Ground.data }], guard := none }) (v := ?vb2x3) rfl (by kernel_rfl) (by kernel_rfl) (by kernel_rfl) (by kernel_rfl) (fun _ _ _ h => h) (Or.inl ⟨by rfl, ?hyb2x3⟩) hHeld ?restb2x3
            case hyb2x3 =>
              intro w hSw
              try dsimp only at hSw
              go_simp
              all_goals with_reducible rfl
            (try simp only [Act.put, List.setIfInBounds_toArray, List.set_cons_zero, List.set_cons_succ])
            refine wpAnyT_take (i := 3) (oi := { dst := some 67, op := Op.binOp BinOp.sub 3 (Operand.tmp 66) (Operand.const (Value.int IntKind.i64 1)) 3, type := 3, pos := "law.go:99", after := #[{ on := 2, ground := Ground.data }], guard := none }) (v := ?vb3x4) rfl (by kernel_rfl) (by kernel_rfl) (by kernel_rfl) (by kernel_rfl) (fun _ _ _ h => h) (Or.inl ⟨by rfl, ?hyb3x4⟩) hHeld ?restb3x4
            case hyb3x4 =>
              intro w hSw
              try dsimp only at hSw
              go_simp
              all_goals with_reducible rfl
            (try simp only [Act.put, List.setIfInBounds_toArray, List.set_cons_zero, List.set_cons_succ])
            refine wpAnyT_one (i := 4) (o := { dst := some 68, op := Op.mapEntry 26 (Operand.tmp 64) (Operand.tmp 65), type := 0, pos := "law.go:99", after := #[{ on := 0, ground := Ground.data }, { on := 1, ground := Ground.data }, { on := 0, ground := Ground.phase }, { on := 1, ground := Ground.phase }, { on := 2, ground := Ground.textOnly Departure.mapOpAssignEntry }, { on := 3, ground := Ground.textOnly Departure.mapOpAssignEntry }], guard := none }) rfl (by kernel_rfl) (fun KK hKK => ?_)
            go_simp
            have hHY : (fun w' => w'.cell? ⟨ga, 0, none⟩ = some (.int .i64 t0) ∧ w'.cell? ⟨ga, 1, none⟩ = some (.int .i64 t1) ∧ w'.cell? ⟨ga, 2, none⟩ = some (.string t2) ∧ (Instr.lookup 26 (.map (some mb)) (.agg #[.int .i64 t0, .int .i64 t1, .string t2]) false).run Try.prog w' = .ok (.int .i64 fx) w') wY := ⟨(But.cell bt1 HGA.out).trans (q0), (But.cell bt1 HGA.out).trans (q1), (But.cell bt1 HGA.out).trans (q2), lk1⟩
            refine hKK _ _ (fun _ => hHY) ?_
            clear hKK KK
            (try simp only [Act.put, List.setIfInBounds_toArray, List.set_cons_zero, List.set_cons_succ])
            refine wpAnyT_take (i := 5) (oi := { dst := some 69, op := Op.extract (Operand.tmp 68) 1, type := 3, pos := "law.go:99", after := #[{ on := 4, ground := Ground.data }], guard := none }) (v := ?vb5x5) rfl (by kernel_rfl) (by kernel_rfl) (by kernel_rfl) (by kernel_rfl) (fun _ _ _ h => h) (Or.inl ⟨by rfl, ?hyb5x5⟩) hHY ?restb5x5
            case hyb5x5 =>
              intro w hSw
              try dsimp only at hSw
              go_simp
              all_goals with_reducible rfl
            (try simp only [Act.put, List.setIfInBounds_toArray, List.set_cons_zero, List.set_cons_succ])
            refine wpAnyT_one (i := 6) (o := { dst := none, op := Op.entryStore 26 (Operand.tmp 64) (Operand.tmp 69) (Operand.tmp 67), type := 0, pos := "law.go:99", after := #[{ on := 0, ground := Ground.data }, { on := 5, ground := Ground.data }, { on := 3, ground := Ground.data }, { on := 4, ground := Ground.chain }, { on := 0, ground := Ground.phase }, { on := 1, ground := Ground.phase }, { on := 2, ground := Ground.phase }, { on := 3, ground := Ground.phase }, { on := 4, ground := Ground.phase }, { on := 5, ground := Ground.phase }], guard := none }) rfl (by kernel_rfl) (fun KK hKK => ?_)
            go_simp
            refine hKK _ _ (fun h => absurd rfl h) ?_
            clear hKK KK
            (try simp only [Act.put, List.setIfInBounds_toArray, List.set_cons_zero, List.set_cons_succ])
            refine wpAnyT_done (by kernel_rfl) ?_ _
            refine NoPanic.normal ?_

            have HZ := Aside0.mk (HS.out.fin HLEN.out ((show But mb w5 wY from bt1).trans bt2) (by rw [HCE.out]; exact M2.out))
            clear bt1 bt2 e1 e2 lk0 lk1 hHeld q0 q1 q2
            go_wp2_with fail
            refine (len_calls _ w.heap.size g _ _ _ HZ.out.n).mono ?_
            rintro _ _ ⟨rfl, rfl⟩
            rw [HL1.out]
            go_wp2_with fail
            go_roundg (l0.length - (i + 1))
            case measure =>
              have := C1.out
              omega
            case rel => exact ⟨i + 1, _, _, _, by have := C1.out; omega, rfl, by rw [HL1.out], rfl, HZ⟩
        · by_cases d2 : d = 2
          · subst d2
            go_wp2_with fail
            have bx0 : (wr.alloc (.cells #[.int .i64 2, .int .i64 ii, .int .i64 f0, .int .i64 f1, .string f2] 30)).cell? ⟨wr.heap.size, 0, none⟩ = some (.int .i64 2) := (blk_cell HBX.out 0).trans rfl
            have bx1 : (wr.alloc (.cells #[.int .i64 2, .int .i64 ii, .int .i64 f0, .int .i64 f1, .string f2] 30)).cell? ⟨wr.heap.size, 1, none⟩ = some (.int .i64 ii) := (blk_cell HBX.out 1).trans rfl
            have bx2 : (wr.alloc (.cells #[.int .i64 2, .int .i64 ii, .int .i64 f0, .int .i64 f1, .string f2] 30)).cell? ⟨wr.heap.size, 2, none⟩ = some (.int .i64 f0) := (blk_cell HBX.out 2).trans rfl
            have bx3 : (wr.alloc (.cells #[.int .i64 2, .int .i64 ii, .int .i64 f0, .int .i64 f1, .string f2] 30)).cell? ⟨wr.heap.size, 3, none⟩ = some (.int .i64 f1) := (blk_cell HBX.out 3).trans rfl
            have bx4 : (wr.alloc (.cells #[.int .i64 2, .int .i64 ii, .int .i64 f0, .int .i64 f1, .string f2] 30)).cell? ⟨wr.heap.size, 4, none⟩ = some (.string f2) := (blk_cell HBX.out 4).trans rfl
            generalize wr.alloc (.cells #[.int .i64 2, .int .i64 ii, .int .i64 f0, .int .i64 f1, .string f2] 30) = wb at HIB HBX bx0 bx1 bx2 bx3 bx4 ⊢
            generalize wr.heap.size = gb at HBX HNB HGM bx0 bx1 bx2 bx3 bx4 ⊢
            refine (all_calls S w.heap.size g v l wb HIB.out.n (by have := HIB.out.len; omega)).mono ?_
            rintro _ w4 ⟨A', c', rfl, h1, h2⟩
            have HI4 := Aside0.mk (HIB.out.below h2)
            have p0 := (h2.block gb (blk_lt HBX.out)).trans HBX.out
            have b1 : w4.cell? ⟨gb, 1, none⟩ = some (.int .i64 ii) := (blk_cell p0 1).trans rfl
            have HBX4 := Aside0.mk p0
            have HROW := Aside0.mk h1
            clear h1 h2 p0
            go_wp2_with fail
            by_cases ct : ii < 0 ∨ (l.length : Int) ≤ ii
            · have ht : doubleI l ii = (l, 4) := by unfold doubleI; rw [if_pos ct]
              clear ct
              refine (double_calls S w.heap.size g v l ii w4 HI4.out.n HI4.out.le HI4.out.len).mono ?_
              rintro _ w5 ⟨v5, rfl, h1, h2, h3⟩
              rw [ht] at h1 ⊢
              have HZ := Aside0.mk ((HI4.out.nstep h1 h2 h3).still HI4.out.len)
              clear h1 h2 h3 ht
              go_wp2_with fail
              refine (len_calls _ w.heap.size g _ _ _ HZ.out.n).mono ?_
              rintro _ _ ⟨rfl, rfl⟩
              go_wp2_with fail
              go_roundg (l0.length - (i + 1))
              case measure =>
                have := C1.out
                omega
              case rel => exact ⟨i + 1, _, _, _, by have := C1.out; omega, rfl, rfl, rfl, HZ⟩

            · obtain ⟨j, rfl⟩ : ∃ j : Nat, ii = (j : Int) := ⟨ii.toNat, by omega⟩
              have hj : j < l.length := by omega
              have hj0 : ¬ ((j : Int) < 0) := by omega
              have hj1 : ¬ ((l.length : Int) ≤ (j : Int)) := by omega
              have hlt : (j < l.length) = True := eq_true hj
              have hlt2 : ((j : Int) < (l.length : Int)) = True := eq_true (by omega)
              have ht : doubleI l (j : Int) = sendI l (rd_T28 l (j : Int)) := by unfold doubleI; rw [if_neg ct]
              clear ct
              obtain ⟨⟨t0, t1, t2⟩, hx⟩ : ∃ x, x = rd_T28 l (j : Int) := ⟨_, rfl⟩
              rw [← hx] at ht
              obtain ⟨fx, hfx⟩ : ∃ y, y = cnt l ⟨t0, t1, t2⟩ := ⟨_, rfl⟩
              have hwf : IntKind.i64.wrap (fx + 1) = fx + 1 := by rw [hfx, IntKind.wrap_i64]; have := cnt_range l ⟨t0, t1, t2⟩ HIB.out.len; omega
              have HFX := Aside0.mk hfx
              clear hfx

              rcases send_spec l ⟨t0, t1, t2⟩ with ⟨se0, se1⟩ | ⟨se0, se1⟩
              · refine (double_calls S w.heap.size g v l (j : Int) w4 HI4.out.n HI4.out.le HI4.out.len).mono ?_
                rintro _ w5 ⟨v5, rfl, h1, h2, h3⟩
                rw [ht, se1] at h1
                have HS := Aside0.mk (HI4.out.nstep h1 h2 h3)
                have p0 := blk_kept HBX4.out h2 HNB.out
                have y1 : w5.cell? ⟨gb, 1, none⟩ = some (.int .i64 (j : Int)) := (blk_cell p0 1).trans rfl
                have r1 : w5.drew.cell? ⟨gb, 1, none⟩ = some (.int .i64 (j : Int)) := (blk_cell p0 1).trans rfl
                have hrow : Kd.R k28 28 w5 wb.heap.size (fun _ => True) (.slice A' l.length c') l := row_step HROW.out (fun k hk hlt => h2.2 k hlt (fun hs => by have := HIB.out.sl k hs; omega))
                obtain ⟨q, eA, hqb, _, q0', q1', q2'⟩ := row_at hrow rfl j hj
                rw [← hx] at q0' q1' q2'
                have q0 : w5.drew.cell? ⟨q, j * 3, none⟩ = some (.int .i64 t0) := q0'
                have q1 : w5.drew.cell? ⟨q, j * 3 + 1, none⟩ = some (.int .i64 t1) := q1'
                have q2 : w5.drew.cell? ⟨q, j * 3 + 2, none⟩ = some (.string t2) := q2'
                have HGQ : Aside0 (q ≠ mb) := ⟨fun h => by have := HIB.out.mb_; omega⟩
                have HLEN := Aside0.mk (send_len l ⟨t0, t1, t2⟩ HIB.out.len)
                subst eA
                rw [ht, se0]
                rw [se1] at HLEN
                have hl1 : (((l ++ [(⟨t0, t1, t2⟩ : S28)]).length : Nat) : Int) = (l.length : Int) + 1 := by simp
                have HL1 := Aside0.mk hl1
                clear h1 h2 h3 p0 hrow hl1 ht se0 se1 hx hqb q0' q1' q2'
                have hdr := Aside0.mk (HS.out.m.same rfl : MK w5.drew mb (cnt l))
                obtain ⟨cc, wY, wZ, e1, m1, bt1, e2, m2, bt2⟩ := hdr.out.step ⟨t0, t1, t2⟩ (fx + 1)
                have lk0 := hdr.out.lookup ⟨t0, t1, t2⟩
                have lk1 := m1.lookup ⟨t0, t1, t2⟩
                rw [← HFX.out] at e1 lk0 lk1
                simp only [kv] at e1 lk0 lk1
                have M2 := Aside0.mk m2
                clear m1 m2

                go_wp2_with fail
                have hHeld : (fun w' => w'.cell? ⟨gb, 1, none⟩ = some (.int .i64 (j : Int)) ∧ w'.cell? ⟨q, j * 3, none⟩ = some (.int .i64 t0) ∧ w'.cell? ⟨q, j * 3 + 1, none⟩ = some (.int .i64 t1) ∧ w'.cell? ⟨q, j * 3 + 2, none⟩ = some (.string t2) ∧ (Instr.lookup 26 (.map (some mb)) (.agg #[.int .i64 t0, .int .i64 t1, .string t2]) false).run Try.prog w' = .ok (.int .i64 fx) w') w5.drew := ⟨r1, q0, q1, q2, lk0⟩
                refine wp_region_noPanic ?_
                refine wp_region_any (by kernel_rfl) ?_
                change wpAny _ _ _ _ _ _ _ (World.drew _)
                refine wpAny_of_T (S := (fun w' => w'.cell? ⟨gb, 1, none⟩ = some (.int .i64 (j : Int)) ∧ w'.cell? ⟨q, j * 3, none⟩ = some (.int .i64 t0) ∧ w'.cell? ⟨q, j * 3 + 1, none⟩ = some (.int .i64 t1) ∧ w'.cell? ⟨q, j * 3 + 2, none⟩ = some (.string t2) ∧ (Instr.lookup 26 (.map (some mb)) (.agg #[.int .i64 t0, .int .i64 t1, .string t2]) false).run Try.prog w' = .ok (.int .i64 fx) w')) (t := 10) _ _ _ _ ?_
                refine wpAnyT_take (i := 0) (oi := { dst := some 95, op := Op.move (Operand.tmp 5), type := 26, pos := "law.go:111", after := #[], guard := none }) (v := ?vc0x1) rfl (by kernel_rfl) (by kernel_rfl) (by kernel_rfl) (by kernel_rfl) (fun _ _ _ h => h) (Or.inl ⟨by rfl, ?hyc0x1⟩) hHeld ?restc0x1
                case hyc0x1 =>
                  intro w hSw
                  try dsimp only at hSw
                  go_simp
                  all_goals with_reducible rfl
                (try simp only [Act.put, List.setIfInBounds_toArray, List.set_cons_zero, List.set_cons_succ])
                refine wpAnyT_take (i := 1) (oi := { dst := some 96, op := Op.move (Operand.tmp 11), type := 35, pos := "law.go:111", after := #[], guard := none }) (v := ?vc1x2) rfl (by kernel_rfl) (by kernel_rfl) (by kernel_rfl) (by kernel_rfl) (fun _ _ _ h => h) (Or.inl ⟨by rfl, ?hyc1x2⟩) hHeld ?restc1x2
                case hyc1x2 =>
                  intro w hSw
                  try dsimp only at hSw
                  go_simp
                  all_goals with_reducible rfl
                (try simp only [Act.put, List.setIfInBounds_toArray, List.set_cons_zero, List.set_cons_succ])
                refine wpAnyT_take (i := 2) (oi := { dst := some 97, op := Op.fieldAddr 30 (Operand.tmp 8) 1, type := 0, pos := "law.go:111", after := #[], guard := none }) (v := ?vc2x3) rfl (by kernel_rfl) (by kernel_rfl) (by kernel_rfl) (by kernel_rfl) (fun _ _ _ h => h) (Or.inl ⟨by rfl, ?hyc2x3⟩) hHeld ?restc2x3
                case hyc2x3 =>
                  intro w hSw
                  try dsimp only at hSw
                  go_simp
                  all_goals with_reducible rfl
                (try simp only [Act.put, List.setIfInBounds_toArray, List.set_cons_zero, List.set_cons_succ])
                refine wpAnyT_take (i := 3) (oi := { dst := some 98, op := Op.load 3 (Operand.tmp 97), type := 3, pos := "law.go:111", after := #[{ on := 2, ground := Ground.data }], guard := none }) (v := ?vc3x4) rfl (by kernel_rfl) (by kernel_rfl) (by kernel_rfl) (by kernel_rfl) (fun _ _ _ h => h) (Or.inl ⟨by rfl, ?hyc3x4⟩) hHeld ?restc3x4
                case hyc3x4 =>
                  intro w hSw
                  try dsimp only at hSw
                  go_simp
                  all_goals with_reducible rfl
                (try simp only [Act.put, List.setIfInBounds_toArray, List.set_cons_zero, List.set_cons_succ])
                refine wpAnyT_take (i := 4) (oi := { dst := some 99, op := Op.indexAddr 35 (Operand.tmp 96) (Operand.tmp 98), type := 0, pos := "law.go:111", after := #[{ on := 1, ground := Ground.data }, { on := 3, ground := Ground.data }], guard := none }) (v := ?vc4x5) rfl (by kernel_rfl) (by kernel_rfl) (by kernel_rfl) (by kernel_rfl) (fun _ _ _ h => h) (Or.inl ⟨by rfl, ?hyc4x5⟩) hHeld ?restc4x5
                case hyc4x5 =>
                  intro w hSw
                  try dsimp only at hSw
                  go_simp
                  all_goals with_reducible rfl
                (try simp only [Act.put, List.setIfInBounds_toArray, List.set_cons_zero, List.set_cons_succ])
                refine wpAnyT_take (i := 5) (oi := { dst := some 100, op := Op.load 28 (Operand.tmp 99), type := 28, pos := "law.go:111", after := #[{ on := 4, ground := Ground.data }], guard := none }) (v := ?vc5x6) rfl (by kernel_rfl) (by kernel_rfl) (by kernel_rfl) (by kernel_rfl) (fun _ _ _ h => h) (Or.inl ⟨by rfl, ?hyc5x6⟩) hHeld ?restc5x6
                case hyc5x6 =>
                  intro w hSw
                  try dsimp only at hSw
                  go_simp
                  all_goals with_reducible rfl
                (try simp only [Act.put, List.setIfInBounds_toArray, List.set_cons_zero, List.set_cons_succ])
                refine wpAnyT_take (i := 6) (oi := { dst := some 101, op := Op.lookup 26 (Operand.tmp 95) (Operand.tmp 100) false, type := 3, pos := "law.go:111", after := #[{ on := 0, ground := Ground.data }, { on := 5, ground := Ground.data }], guard := none }) (v := ?vc6x7) rfl (by kernel_rfl) (by kernel_rfl) (by kernel_rfl) (by kernel_rfl) (fun _ _ _ h => h) (Or.inl ⟨by rfl, ?hyc6x7⟩) hHeld ?restc6x7
                case hyc6x7 =>
                  intro w hSw
                  try dsimp only at hSw
                  go_simp
                  all_goals with_reducible rfl
                (try simp only [Act.put, List.setIfInBounds_toArray, List.set_cons_zero, List.set_cons_succ])
                refine wpAnyT_take (i := 7) (oi := { dst := some 102, op := Op.binOp BinOp.add 3 (Operand.tmp 101) (Operand.const (Value.int IntKind.i64 1)) 3, type := 3, pos := "law.go:111", after := #[{ on := 6, ground := Ground.data }], guard := none }) (v := ?vc7x8) rfl (by kernel_rfl) (by kernel_rfl) (by kernel_rfl) (by kernel_rfl) (fun _ _ _ h => h) (Or.inl ⟨by rfl, ?hyc7x8⟩) hHeld ?restc7x8
                case hyc7x8 =>
                  intro w hSw
                  try dsimp only at hSw
                  go_simp
                  all_goals with_reducible rfl
                (try simp only [Act.put, List.setIfInBounds_toArray, List.set_cons_zero, List.set_cons_succ])
                refine wpAnyT_one (i := 8) (o := { dst := some 103, op := Op.mapEntry 26 (Operand.tmp 95) (Operand.tmp 100), type := 0, pos := "law.go:111", after := #[{ on := 0, ground := Ground.data }, { on := 5, ground := Ground.data }, { on := 0, ground := Ground.phase }, { on := 1, ground := Ground.phase }, { on := 2, ground := Ground.phase }, { on := 3, ground := Ground.phase }, { on := 4, ground := Ground.phase }, { on := 5, ground := Ground.phase }, { on := 6, ground := Ground.textOnly Departure.mapOpAssignEntry }, { on := 7, ground := Ground.textOnly Departure.mapOpAssignEntry }], guard := none }) rfl (by kernel_rfl) (fun KK hKK => ?_)
                go_simp
                have hHY : (fun w' => w'.cell? ⟨gb, 1, none⟩ = some (.int .i64 (j : Int)) ∧ w'.cell? ⟨q, j * 3, none⟩ = some (.int .i64 t0) ∧ w'.cell? ⟨q, j * 3 + 1, none⟩ = some (.int .i64 t1) ∧ w'.cell? ⟨q, j * 3 + 2, none⟩ = some (.string t2) ∧ (Instr.lookup 26 (.map (some mb)) (.agg #[.int .i64 t0, .int .i64 t1, .string t2]) false).run Try.prog w' = .ok (.int .i64 fx) w') wY := ⟨(But.cell bt1 HGM.out).trans (r1), (But.cell bt1 HGQ.out).trans (q0), (But.cell bt1 HGQ.out).trans (q1), (But.cell bt1 HGQ.out).trans (q2), lk1⟩
                refine hKK _ _ (fun _ => hHY) ?_
                clear hKK KK
                (try simp only [Act.put, List.setIfInBounds_toArray, List.set_cons_zero, List.set_cons_succ])
                refine wpAnyT_take (i := 9) (oi := { dst := some 104, op := Op.extract (Operand.tmp 103) 1, type := 3, pos := "law.go:111", after := #[{ on := 8, ground := Ground.data }], guard := none }) (v := ?vc9x9) rfl (by kernel_rfl) (by kernel_rfl) (by kernel_rfl) (by kernel_rfl) (fun _ _ _ h => h) (Or.inl ⟨by rfl, ?hyc9x9⟩) hHY ?restc9x9
                case hyc9x9 =>
                  intro w hSw
                  try dsimp only at hSw
                  go_simp
                  all_goals with_reducible rfl
                (try simp only [Act.put, List.setIfInBounds_toArray, List.set_cons_zero, List.set_cons_succ])
                refine wpAnyT_one (i := 10) (o := { dst := none, op := Op.entryStore 26 (Operand.tmp 95) (Operand.tmp 104) (Operand.tmp 102), type := 0, pos := "law.go:111", after := #[{ on := 0, ground := Ground.data }, { on := 9, ground := Ground.data }, { on := 7, ground := Ground.data }, { on := 8, ground := Ground.chain }, { on := 0, ground := Ground.phase }, { on := 1, ground := Ground.phase }, { on := 2, ground := Ground.phase }, { on := 3, ground := Ground.phase }, { on := 4, ground := Ground.phase }, { on := 5, ground := Ground.phase }, { on := 6, ground := Ground.phase }, { on := 7, ground := Ground.phase }, { on := 8, ground := Ground.phase }, { on := 9, ground := Ground.phase }], guard := none }) rfl (by kernel_rfl) (fun KK hKK => ?_)
                go_simp
                refine hKK _ _ (fun h => absurd rfl h) ?_
                clear hKK KK
                (try simp only [Act.put, List.setIfInBounds_toArray, List.set_cons_zero, List.set_cons_succ])
                refine wpAnyT_done (by kernel_rfl) ?_ _
                refine NoPanic.normal ?_

                have HZ := Aside0.mk (HS.out.fin HLEN.out ((show But mb w5 wY from bt1).trans bt2) (by rw [cnt_app, ← HFX.out]; exact M2.out))
                clear bt1 bt2 e1 e2 lk0 lk1 hHeld q0 q1 q2
                go_wp2_with fail
                refine (len_calls _ w.heap.size g _ _ _ HZ.out.n).mono ?_
                rintro _ _ ⟨rfl, rfl⟩
                rw [HL1.out]
                go_wp2_with fail
                go_roundg (l0.length - (i + 1))
                case measure =>
                  have := C1.out
                  omega
                case rel => exact ⟨i + 1, _, _, _, by have := C1.out; omega, rfl, by rw [HL1.out], rfl, HZ⟩

              · refine (double_calls S w.heap.size g v l (j : Int) w4 HI4.out.n HI4.out.le HI4.out.len).mono ?_
                rintro _ w5 ⟨v5, rfl, h1, h2, h3⟩
                rw [ht, se1] at h1
                rw [ht]
                have HZ := Aside0.mk ((HI4.out.nstep h1 h2 h3).still HI4.out.len)
                clear h1 h2 h3 ht se1
                generalize (sendI l ⟨t0, t1, t2⟩).2 = sv at se0 ⊢
                go_wp2_with fail
                refine (len_calls _ w.heap.size g _ _ _ HZ.out.n).mono ?_
                rintro _ _ ⟨rfl, rfl⟩
                go_wp2_with fail
                go_roundg (l0.length - (i + 1))
                case measure =>
                  have := C1.out
                  omega
                case rel => exact ⟨i + 1, _, _, _, by have := C1.out; omega, rfl, rfl, rfl, HZ⟩
          · go_wp2_with fail
            have HZ := HIB
            refine (len_calls _ w.heap.size g _ _ _ HZ.out.n).mono ?_
            rintro _ _ ⟨rfl, rfl⟩
            go_wp2_with fail
            go_roundg (l0.length - (i + 1))
            case measure =>
              have := C1.out
              omega
            case rel => exact ⟨i + 1, _, _, _, by have := C1.out; omega, rfl, rfl, rfl, HZ⟩
    · skip
      obtain rfl : i = l0.length := by omega
      go_wp2_with fail
      refine (all_calls S w.heap.size g v l wr HI.out.n (by have := HI.out.len; omega)).mono ?_
      rintro _ w4 ⟨A', c', rfl, h1, h2⟩
      have HRO := Aside0.mk h1
      have HWR := Aside0.mk (HI.out.mb_)
      have h0 : Below w.heap.size w w4 ∧ MK w4 mb (cnt (l.drop 0)) ∧ mb < w4.heap.size ∧ Kd.R k28 28 w4 wr.heap.size (fun _ => True) (.slice A' l.length c') l ∧ w.heap.size ≤ w4.heap.size := by
        have hi4 := HI.out.below h2
        exact ⟨hi4.bel, hi4.m, hi4.mb_, h1, hi4.le⟩
      have H0 := Aside0.mk h0
      have HLN := Aside0.mk HI.out.len
      have HBM := Aside0.mk HI.out.bm
      clear h1 h2 h0 HI hwl HR
      go_wp2_with fail
      go_loopg [115] l.length (fun kq v115 w' => ∃ i : Nat, i ≤ l.length ∧ kq = l.length - i ∧ v115 = .int .i64 (i : Int) ∧ Aside0 (Below w.heap.size w w' ∧ MK w' mb (cnt (l.drop i)) ∧ mb < w'.heap.size ∧ Kd.R k28 28 w' wr.heap.size (fun _ => True) (.slice A' l.length c') l ∧ w.heap.size ≤ w'.heap.size))
      case atStart => exact ⟨0, by omega, rfl, rfl, H0⟩
      case round =>
        obtain ⟨i, hi, rfl, rfl, HQ⟩ := hrel
        by_cases c1 : i < l.length
        · have hw1 : IntKind.i64.wrap ((i : Int) + 1) = (i : Int) + 1 := by rw [IntKind.wrap_i64]; have := HLN.out; omega
          have hlt : (i < l.length) = True := eq_true c1
          have hlt2 : ((i : Int) < (l.length : Int)) = True := eq_true (by omega)
          obtain ⟨q, eA, hqb, _, y0, y1, y2⟩ := row_at HQ.out.2.2.2.1 rfl i c1
          have ce := cnt_cons (rd_T28 l (i : Int)) (l.drop (i + 1))
          have hdr : rd_T28 l (i : Int) :: l.drop (i + 1) = l.drop i := by
            have : rd_T28 l (i : Int) = l[i] := by simp [rd_T28, List.getD_eq_getElem?_getD, List.getElem?_eq_getElem c1]
            rw [this, List.drop_eq_getElem_cons c1]
          rw [hdr] at ce
          obtain ⟨ce1, ce2⟩ := ce
          obtain ⟨⟨t0, t1, t2⟩, hx⟩ : ∃ x, x = rd_T28 l (i : Int) := ⟨_, rfl⟩
          rw [← hx] at ce1 ce2 y0 y1 y2
          simp only [] at y0 y1 y2
          subst eA
          obtain ⟨fx, hfx⟩ : ∃ y, y = cnt (l.drop i) ⟨t0, t1, t2⟩ := ⟨_, rfl⟩
          have hwf : IntKind.i64.wrap (fx - 1) = fx - 1 := by rw [hfx, IntKind.wrap_i64]; have := cnt_range (l.drop i) ⟨t0, t1, t2⟩ (by rw [List.length_drop]; have := HLN.out; omega); omega
          have HFX := Aside0.mk hfx
          clear hfx

          rw [← HFX.out] at ce1 ce2
          have hge : ¬ (fx - 1 < 0) := by omega
          have HCE := Aside0.mk ce1
          have C1 := Aside0.mk c1
          clear ce1 ce2 hx hdr hqb
          go_wp2_with fail
          have hal := below_alloc (Below.refl wr.heap.size wr) (.cells #[.int .i64 t0, .int .i64 t1, .string t2] 28)
          have hab := heap_alloc_new wr (.cells #[.int .i64 t0, .int .i64 t1, .string t2] 28)
          have hs : Below w.heap.size w (wr.alloc (.cells #[.int .i64 t0, .int .i64 t1, .string t2] 28)) ∧ MK (wr.alloc (.cells #[.int .i64 t0, .int .i64 t1, .string t2] 28)) mb (cnt (l.drop i)) ∧ mb < (wr.alloc (.cells #[.int .i64 t0, .int .i64 t1, .string t2] 28)).heap.size ∧ Kd.R k28 28 (wr.alloc (.cells #[.int .i64 t0, .int .i64 t1, .string t2] 28)) _ (fun _ => True) (.slice (some ⟨q, 0, none⟩) l.length c') l ∧ w.heap.size ≤ (wr.alloc (.cells #[.int .i64 t0, .int .i64 t1, .string t2] 28)).heap.size :=
            ⟨HQ.out.1.trans (hal.mono HQ.out.2.2.2.2), HQ.out.2.1.same (hal.block mb HQ.out.2.2.1), Nat.lt_of_lt_of_le HQ.out.2.2.1 hal.size, row_step HQ.out.2.2.2.1 (fun k _ hlt => hal.block k hlt), Nat.le_trans HQ.out.2.2.2.2 hal.size⟩
          have HS := Aside0.mk hs
          have HGA : Aside0 (wr.heap.size ≠ mb) := ⟨fun h => by have := HQ.out.2.2.1; omega⟩
          clear hal hs
          generalize wr.alloc (.cells #[.int .i64 t0, .int .i64 t1, .string t2] 28) = w5 at HS hab ⊢
          generalize wr.heap.size = ga at hab HGA ⊢
          have q0 : w5.drew.cell? ⟨ga, 0, none⟩ = some (.int .i64 t0) := (blk_cell hab 0).trans rfl
          have q1 : w5.drew.cell? ⟨ga, 1, none⟩ = some (.int .i64 t1) := (blk_cell hab 1).trans rfl
          have q2 : w5.drew.cell? ⟨ga, 2, none⟩ = some (.string t2) := (blk_cell hab 2).trans rfl
          clear hab
          have hdr := Aside0.mk (HS.out.2.1.same rfl : MK w5.drew mb (cnt (l.drop i)))
          obtain ⟨cc, wY, wZ, e1, m1, bt1, e2, m2, bt2⟩ := hdr.out.step ⟨t0, t1, t2⟩ (fx - 1)
          have lk0 := hdr.out.lookup ⟨t0, t1, t2⟩
          have lk1 := m1.lookup ⟨t0, t1, t2⟩
          rw [← HFX.out] at e1 lk0 lk1
          simp only [kv] at e1 lk0 lk1
          have M2 := Aside0.mk m2
          clear m1 m2

          have lkZ := M2.out.lookup ⟨t0, t1, t2⟩
          rw [upd_self] at lkZ
          simp only [kv] at lkZ
          have z0 := (But.cell bt2 HGA.out).trans ((But.cell bt1 HGA.out).trans q0)
          have z1 := (But.cell bt2 HGA.out).trans ((But.cell bt1 HGA.out).trans q1)
          have z2 := (But.cell bt2 HGA.out).trans ((But.cell bt1 HGA.out).trans q2)
          have hHeld : (fun w' => w'.cell? ⟨ga, 0, none⟩ = some (.int .i64 t0) ∧ w'.cell? ⟨ga, 1, none⟩ = some (.int .i64 t1) ∧ w'.cell? ⟨ga, 2, none⟩ = some (.string t2) ∧ (Instr.lookup 26 (.map (some mb)) (.agg #[.int .i64 t0, .int .i64 t1, .string t2]) false).run Try.prog w' = .ok (.int .i64 fx) w') w5.drew := ⟨q0, q1, q2, lk0⟩
          refine wp_region_noPanic ?_
          refine wp_region_any (by kernel_rfl) ?_
          change wpAny _ _ _ _ _ _ _ (World.drew _)
          refine wpAny_of_T (S := (fun w' => w'.cell? ⟨ga, 0, none⟩ = some (.int .i64 t0) ∧ w'.cell? ⟨ga, 1, none⟩ = some (.int .i64 t1) ∧ w'.cell? ⟨ga, 2, none⟩ = some (.string t2) ∧ (Instr.lookup 26 (.map (some mb)) (.agg #[.int .i64 t0, .int .i64 t1, .string t2]) false).run Try.prog w' = .ok (.int .i64 fx) w')) (t := 6) _ _ _ _ ?_
          refine wpAnyT_take (i := 0) (oi := { dst := some 119, op := Op.move (Operand.tmp 5), type := 26, pos := "law.go:120", after := #[], guard := none }) (v := ?vd0x1) rfl (by kernel_rfl) (by kernel_rfl) (by kernel_rfl) (by kernel_rfl) (fun _ _ _ h => h) (Or.inl ⟨by rfl, ?hyd0x1⟩) hHeld ?restd0x1
          case hyd0x1 =>
            intro w hSw
            try dsimp only at hSw
            go_simp
            all_goals with_reducible rfl
          (try simp only [Act.put, List.setIfInBounds_toArray, List.set_cons_zero, List.set_cons_succ])
          refine wpAnyT_take (i := 1) (oi := { dst := some 120, op := Op.load 28 (Operand.tmp 13), type := 28, pos := "law.go:120", after := #[], guard := none }) (v := ?vd1x2) rfl (by kernel_rfl) (by kernel_rfl) (by kernel_rfl) (by kernel_rfl) (fun _ _ _ h => h) (Or.inl ⟨by rfl, ?hyd1x2⟩) hHeld ?restd1x2
          case hyd1x2 =>
            intro w hSw
            try dsimp only at hSw
            go_simp
            all_goals with_reducible rfl
          (try simp only [Act.put, List.setIfInBounds_toArray, List.set_cons_zero, List.set_cons_succ])
          refine wpAnyT_take (i := 2) (oi := { dst := some 121, op := Op.lookup 26 (Operand.tmp 119) (Operand.tmp 120) false, type := 3, pos := "law.go:120", after := #[{ on := 0, ground := Ground.data }, { on := 1, ground := Ground.data }], guard := none }) (v := ?vd2x3) rfl (by kernel_rfl) (by kernel_rfl) (by kernel_rfl) (by kernel_rfl) (fun _ _ _ h => h) (Or.inl ⟨by rfl, ?hyd2x3⟩) hHeld ?restd2x3
          case hyd2x3 =>
            intro w hSw
            try dsimp only at hSw
            go_simp
            all_goals with_reducible rfl
          (try simp only [Act.put, List.setIfInBounds_toArray, List.set_cons_zero, List.set_cons_succ])
          refine wpAnyT_take (i := 3) (oi := { dst := some 122, op := Op.binOp BinOp.sub 3 (Operand.tmp 121) (Operand.const (Value.int IntKind.i64 1)) 3, type := 3, pos := "law.go:120", after := #[{ on := 2, ground := Ground.data }], guard := none }) (v := ?vd3x4) rfl (by kernel_rfl) (by kernel_rfl) (by kernel_rfl) (by kernel_rfl) (fun _ _ _ h => h) (Or.inl ⟨by rfl, ?hyd3x4⟩) hHeld ?restd3x4
          case hyd3x4 =>
            intro w hSw
            try dsimp only at hSw
            go_simp
            all_goals with_reducible rfl
          (try simp only [Act.put, List.setIfInBounds_toArray, List.set_cons_zero, List.set_cons_succ])
          refine wpAnyT_one (i := 4) (o := { dst := some 123, op := Op.mapEntry 26 (Operand.tmp 119) (Operand.tmp 120), type := 0, pos := "law.go:120", after := #[{ on := 0, ground := Ground.data }, { on := 1, ground := Ground.data }, { on := 0, ground := Ground.phase }, { on := 1, ground := Ground.phase }, { on := 2, ground := Ground.textOnly Departure.mapOpAssignEntry }, { on := 3, ground := Ground.textOnly Departure.mapOpAssignEntry }], guard := none }) rfl (by kernel_rfl) (fun KK hKK => ?_)
          go_simp
          have hHY : (fun w' => w'.cell? ⟨ga, 0, none⟩ = some (.int .i64 t0) ∧ w'.cell? ⟨ga, 1, none⟩ = some (.int .i64 t1) ∧ w'.cell? ⟨ga, 2, none⟩ = some (.string t2) ∧ (Instr.lookup 26 (.map (some mb)) (.agg #[.int .i64 t0, .int .i64 t1, .string t2]) false).run Try.prog w' = .ok (.int .i64 fx) w') wY := ⟨(But.cell bt1 HGA.out).trans (q0), (But.cell bt1 HGA.out).trans (q1), (But.cell bt1 HGA.out).trans (q2), lk1⟩
          refine hKK _ _ (fun _ => hHY) ?_
          clear hKK KK
          (try simp only [Act.put, List.setIfInBounds_toArray, List.set_cons_zero, List.set_cons_succ])
          refine wpAnyT_take (i := 5) (oi := { dst := some 124, op := Op.extract (Operand.tmp 123) 1, type := 3, pos := "law.go:120", after := #[{ on := 4, ground := Ground.data }], guard := none }) (v := ?vd5x5) rfl (by kernel_rfl) (by kernel_rfl) (by kernel_rfl) (by kernel_rfl) (fun _ _ _ h => h) (Or.inl ⟨by rfl, ?hyd5x5⟩) hHY ?restd5x5
          case hyd5x5 =>
            intro w hSw
            try dsimp only at hSw
            go_simp
            all_goals with_reducible rfl
          (try simp only [Act.put, List.setIfInBounds_toArray, List.set_cons_zero, List.set_cons_succ])
          refine wpAnyT_one (i := 6) (o := { dst := none, op := Op.entryStore 26 (Operand.tmp 119) (Operand.tmp 124) (Operand.tmp 122), type := 0, pos := "law.go:120", after := #[{ on := 0, ground := Ground.data }, { on := 5, ground := Ground.data }, { on := 3, ground := Ground.data }, { on := 4, ground := Ground.chain }, { on := 0, ground := Ground.phase }, { on := 1, ground := Ground.phase }, { on := 2, ground := Ground.phase }, { on := 3, ground := Ground.phase }, { on := 4, ground := Ground.phase }, { on := 5, ground := Ground.phase }], guard := none }) rfl (by kernel_rfl) (fun KK hKK => ?_)
          go_simp
          refine hKK _ _ (fun h => absurd rfl h) ?_
          clear hKK KK
          (try simp only [Act.put, List.setIfInBounds_toArray, List.set_cons_zero, List.set_cons_succ])
          refine wpAnyT_done (by kernel_rfl) ?_ _
          refine NoPanic.normal ?_

          have hb2 := (show But mb w5 wY from bt1).trans bt2
          have HZ := Aside0.mk (And.intro (But.below HS.out.1 hb2 HBM.out) (And.intro (show MK wZ mb (cnt (l.drop (i + 1))) by rw [HCE.out]; exact M2.out) (And.intro (show mb < wZ.heap.size by rw [hb2.2.1]; exact HS.out.2.2.1) (And.intro (row_step HS.out.2.2.2.1 (fun k hk _ => hb2.1 k (fun e => by have := HWR.out; omega))) (show w.heap.size ≤ wZ.heap.size by rw [hb2.2.1]; exact HS.out.2.2.2.2)))))
          clear bt1 bt2 hb2 e1 e2 lk0 lk1 hHeld q0 q1 q2
          go_wp2_with fail
          go_roundg (l.length - (i + 1))
          case measure =>
            have := C1.out
            omega
          case rel => exact ⟨i + 1, by have := C1.out; omega, rfl, rfl, HZ⟩
        · obtain rfl : i = l.length := by omega
          go_wp2_with fail
          go_ret
          exact ⟨rfl, HQ.out.1⟩


set_option maxHeartbeats 4000000 in
set_option maxRecDepth 100000 in
theorem keeps_long (A0 : Option Addr) (c0 n : Nat) (w : World) (h : 300 < n) :
    Calls Try.prog 3 #[.slice A0 n c0] w fun e w' => e = .returned (.bool true) ∧ Below w.heap.size w w' := by
  have k1 : (300 : Int) < (n : Int) := by omega
  go_enter Try.func3, Try.ntmps3
  go_wp2_with fail
  refine (live_calls w).mono ?_
  rintro _ w1 ⟨rfl, hb1⟩
  have HB1 := Aside0.mk hb1
  clear hb1
  go_wp2_with fail
  refine (new_calls w1).mono ?_
  rintro _ w2 ⟨g0, rfl, hg, hb2⟩
  have HB2 := Aside0.mk (HB1.out.trans (hb2.mono HB1.out.size))
  clear hg hb2
  go_wp2_with fail
  go_ret
  exact ⟨rfl, HB2.out⟩
theorem keeps_calls (A0 : Option Addr) (c0 : Nat) (l0 : List SOp) (w : World) (hr0 : Kd.C kOp w A0 l0.length l0) (hc0 : l0.length ≤ c0) :
    Calls Try.prog 3 #[.slice A0 l0.length c0] w fun e w' => e = .returned (.bool true) ∧ Below w.heap.size w w' := by
  by_cases h : l0.length ≤ 300
  · exact keeps_walk A0 c0 l0 w hr0 hc0 h
  · exact keeps_long A0 c0 l0.length w (by omega)
end Go.Proofs.Ytpnbeifbapcmdaa.Nk
