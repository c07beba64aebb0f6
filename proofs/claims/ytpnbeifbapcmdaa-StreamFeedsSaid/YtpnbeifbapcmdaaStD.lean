/- Package stream's Bytes, walked: the bytes of some frames. -/
import Derived.Test.YtpnbeifbapcmdaaStC
namespace Go.Proofs.Ytpnbeifbapcmdaa.St
open Go.RowKit Go.Proofs.Ytpnbeifbapcmdaa.PStreamFeeds Go.Proofs.YtpnbeifbapcmdaaW.PrintWords Go.Proofs.YtpnbeifbapcmdaaW.PrintLast Go.Proofs.YtpnbeifbapcmdaaW.PrintMore
set_option linter.unusedVariables false
set_option linter.unusedSimpArgs false
attribute [local go_sem] max2_int min2_int max_two min_two
theorem sl_at {a b : Nat} (h : a = b) : Value.slice (some ⟨a, 0, none⟩) 1 1 = Value.slice (some ⟨b, 0, none⟩) 1 1 := by rw [h]
theorem al_size (w : World) (o : Obj) : w.heap.size + 1 = (w.alloc o).heap.size := by simp
section
variable {ops : Array Oper} {rest : List Oper} {o : Oper} {a : Act} {Q : Exit → Act → World → Prop}
theorem R_app_str_step {w0 W : World} {Kc : Act → World → Prop} {E : Prop} (base : Nat) (hgd : o.guard = none) (s x : Operand)
    (ho : o.op = .call { callee := .builtin .append, args := #[s, x], argTypes := #[54, 9] })
    (v : Value) (xs : List Int) (y : ByteArray) (hs : a.eval s = v) (hx : a.eval x = .string y)
    (HO : Kd.R (Kd.int .u8) 5 W base (fun _ => True) v xs) (HB : Below base w0 W) (hbase : base ≤ W.heap.size) (hl : xs.length + y.size ≤ 140737488355328)
    (h : ∀ v1 w1, Kd.R (Kd.int .u8) 5 w1 base (fun _ => True) v1 (xs ++ bytesOf y) → Below base w0 w1 → W.grownBy w1 v.ownBlock → Kc (a.put o.dst v1) w1) :
    if Region.wanted o (yielded ops a.tmps) = true then Oper.wp Try.prog o a W Kc Q else E := by
  have hw : Region.wanted o (yielded ops a.tmps) = true := by simp [Region.wanted, hgd]
  rw [if_pos hw]
  obtain ⟨i0, hi, hzz⟩ := Option.map_eq_some_iff.1 info5
  simp only [Prod.mk.injEq] at hzz
  obtain ⟨hz0, hz1, hz2⟩ := hzz
  obtain ⟨v1, w1, hr, hown, hg, _⟩ := Lib.run_append_own_string (P := Try.prog) W base 54 9 o.type 5 i0 Try.underlying54 (by kernel_rfl) hi hz0 hz1 hz2 v xs.length (Go.Proofs.YtpnbeifbapcmdaaW.PrintWords.nums .u8 xs) (Kd.own_of_R HO) y (by simp only [maxLen]; omega) hl hbase
  unfold Oper.wp execOp
  simp only [ho, resolve, invoke, builtin, Sem.run_bind, Sem.run_pure, Result.andThen_ok, List.map_toArray, List.map_cons, List.map_nil, hs, hx, hr]
  have hl2 : (xs ++ bytesOf y).length = xs.length + y.size := by rw [List.length_append, bytesOf_length]
  have hc : Go.Proofs.YtpnbeifbapcmdaaW.PrintWords.nums .u8 (xs ++ bytesOf y) = Go.Proofs.YtpnbeifbapcmdaaW.PrintWords.nums .u8 xs ++ Lib.strCells y := by
    rw [Go.Proofs.YtpnbeifbapcmdaaW.PrintWords.nums_append]
    congr 1
    simp [Go.Proofs.YtpnbeifbapcmdaaW.PrintWords.nums, bytesOf, Lib.strCells]
  exact h v1 w1 (Kd.R_of_own (by rw [hl2]; have h2 := hown; rw [← hc] at h2; exact h2) (fun _ _ => trivial)) (HB.grown hg hbase (own_base (Kd.own_of_R HO))) hg
end
def encF (f : S64) : Option (List Int) :=
  if f.f0 = 81 then (if f.f1.size ≤ 48 then some (([81] ++ [(f.f1.size : Int)]) ++ bytesOf f.f1) else none)
  else if f.f0 = 66 ∨ f.f0 = 69 then (if f.f1.size = 0 then some [f.f0] else none) else none
def runE : List Int → List S64 → Option (List Int)
  | acc, [] => some acc
  | acc, f :: r => match encF f with | none => none | some a => runE (acc ++ a) r
theorem runE_drop (acc : List Int) (l : List S64) (i : Nat) (h : i < l.length) : runE acc (l.drop i) = match encF (rd_T64 l (i : Int)) with | none => none | some a => runE (acc ++ a) (l.drop (i + 1)) := by
  rw [List.drop_eq_getElem_cons h]
  have : rd_T64 l (i : Int) = l[i] := by simp [rd_T64, List.getD_eq_getElem?_getD, List.getElem?_eq_getElem h]
  rw [this]
  rfl
theorem encF_len {f : S64} {a : List Int} (h : encF f = some a) : a.length ≤ 50 := by
  unfold encF at h
  split at h
  · split at h
    · injection h with h
      rw [← h, List.length_append, List.length_append, bytesOf_length]
      simp only [List.length_cons, List.length_nil]
      omega
    · cases h
  · split at h
    · split at h
      · injection h with h
        rw [← h]
        simp
      · cases h
    · cases h
set_option maxHeartbeats 8000000 in
set_option maxRecDepth 100000 in
theorem bytes_calls (A0 : Option Addr) (c0 : Nat) (l : List S64) (w : World) (hr0 : Kd.C k64 w A0 l.length l) (hc0 : l.length ≤ c0) (hl : l.length ≤ 2000000) :
    Calls Try.prog 30 #[.slice A0 l.length c0] w fun e w' => ((∃ acc v, runE [] l = some acc ∧ e = .returned (.tuple #[v, .int .i64 0]) ∧ Kd.R (Kd.int .u8) 5 w' w.heap.size (fun _ => True) v acc) ∨ (runE [] l = none ∧ e = .returned (.tuple #[.slice none 0 0, .int .i64 90]))) ∧ Below w.heap.size w w' := by
  have HR := Aside0.mk hr0
  have HC := Aside0.mk hc0
  have HL := Aside0.mk hl
  clear hr0 hc0
  have HO0 : Aside0 (Kd.R (Kd.int .u8) 5 w w.heap.size (fun _ => True) (.slice none 0 0) []) := ⟨Kd.R_nil _ _ _ _ _⟩
  go_enter Try.func30, Try.ntmps30
  go_wp2_with fail
  go_loopg [4, 10] l.length (fun kq v4 v10 w' => ∃ (i : Nat) (acc : List Int), i ≤ l.length ∧ kq = l.length - i ∧ v10 = .int .i64 (i : Int) ∧ Aside0 (Kd.R (Kd.int .u8) 5 w' w.heap.size (fun _ => True) v4 acc ∧ acc.length ≤ 50 * i) ∧ Aside0 (runE [] l = runE acc (l.drop i)) ∧ Aside0 (Below w.heap.size w w'))
  case atStart => exact ⟨0, [], by omega, rfl, rfl, ⟨HO0.out, by simp⟩, ⟨rfl⟩, ⟨Below.refl _ _⟩⟩
  case round =>
    clear HO0
    obtain ⟨i, acc, hi, rfl, rfl, HO, HE, HB⟩ := hrel
    by_cases c1 : i < l.length
    · obtain ⟨ad, eA, x0, x1⟩ := at_T64 (Kd.C_below HR.out HB.out) (i : Int) (by omega) (by omega)
      have hd := runE_drop acc l i c1
      rw [Int.toNat_natCast] at x0 x1
      obtain ⟨f, hf⟩ : ∃ f, f = rd_T64 l (i : Int) := ⟨_, rfl⟩
      rw [← hf] at x0 x1 hd
      clear hf
      subst eA
      obtain ⟨c, y⟩ := f
      simp only [] at x0 x1
      have HD := Aside0.mk hd
      have C1 := Aside0.mk c1
      have HA := Aside0.mk (show acc.length ≤ 100000000 by have := HO.out.2; have := HL.out; omega)
      clear hd
      by_cases k1 : c = 81
      · subst k1
        have HZ : Aside0 (w.heap.size ≤ (wr.alloc (.cells #[.int .u8 81, .string y] 64)).heap.size) := ⟨Nat.le_trans HB.out.size (below_alloc (Below.refl wr.heap.size wr) _).size⟩
        have HO1 := Aside0.mk (Kd.R_below HO.out.1 (below_alloc (Below.refl wr.heap.size wr) (.cells #[.int .u8 81, .string y] 64)))
        by_cases k2 : y.size ≤ 48
        · have hw : IntKind.u8.wrap (y.size : Int) = (y.size : Int) := by rw [IntKind.wrap_u8]; omega
          have k3 : ¬ ((48 : Int) < (y.size : Int)) := by omega
          have K2 := Aside0.mk k2
          clear k2
          go_wp2_with ((with_reducible refine gate_builtin (b := .append) (xs := #[.tmp 44, .tmp 47]) rfl ?_); at_builtin; refine Kd.R_append (Kd.int .u8) (w0 := (wr.alloc (.cells #[.int .u8 81, .string y] 64))) (W := (wr.alloc (.cells #[.int .u8 81, .string y] 64))) w.heap.size rfl (.tmp 44) (.tmp 47) 54 5 (.int .u8 0) 1 rfl Try.underlying54 info5 rfl (by decide) (by omega) u4 acc 81 [.int .u8 81] (fun _ => True) (fun _ => False) rfl (sl_at (al_size wr _)) rfl (fun _ hk => hk.elim) (fun _ _ => trivial) HO1.out (Below.refl _ _) HZ.out (by have := HA.out; (try simp only [List.length_append, List.length_cons, List.length_nil]); omega) ?_; intro v1 w1 ho hb hg hat; have HB2 := Aside0.mk (((HB.out.trans ((below_alloc (Below.refl wr.heap.size wr) (.cells #[.int .u8 81, .string y] 64)).mono HB.out.size))).trans hb); have HK2 := Aside0.mk (blk_grown (heap_alloc_new wr (.cells #[.int .u8 81, .string y] 64)) hg (Kd.R_ne HO1.out (heap_alloc_new wr (.cells #[.int .u8 81, .string y] 64)) (by decide))); have HZ2 := Aside0.mk (Nat.le_trans HZ.out hg.size); have HO2 := Aside0.mk ho; have q2 : w1.cell? ⟨wr.heap.size, 1, none⟩ = some (.string y) := (blk_cell HK2.out 1).trans rfl; clear ho hb hg hat)
          clear x0 x1
          have HO2d := Aside0.mk (Kd.R_below HO2.out (Below.refl w1.heap.size w1).drew)
          have HK2d : Aside0 (w1.drew.heap[wr.heap.size]? = _) := HK2
          go_region_held3 (fun w' => w'.cell? ⟨wr.heap.size, 1, none⟩ = some (.string y)) (first | assumption | go_keep) (first | (refine Kd.R_append_step (Kd.int .u8) (w0 := w1.drew) (W := w1.drew) w.heap.size rfl (.tmp 50) (.tmp 55) 54 5 (.int .u8 0) 1 rfl Try.underlying54 info5 rfl (by decide) (by omega) v1 (acc ++ [81]) (y.size : Int) [.int .u8 (y.size : Int)] (fun _ => True) (fun _ => False) (by simp [Act.eval, Act.put]) (by simp [Act.eval, Act.put]) rfl (fun _ hk => hk.elim) (fun _ _ => trivial) HO2d.out (Below.refl _ _) HZ2.out (by have := HA.out; (try simp only [List.length_append, List.length_cons, List.length_nil]); omega) ?_; intro v2 w2 ho hb hg hat; have HB3 := Aside0.mk ((HB2.out.drew).trans hb); have HK3 := Aside0.mk (blk_grown HK2d.out hg (Kd.R_ne HO2d.out HK2d.out (by decide))); have HZ3 := Aside0.mk (Nat.le_trans HZ2.out hg.size); have HO3 := Aside0.mk ho; have q3 : w2.cell? ⟨wr.heap.size, 1, none⟩ = some (.string y) := (blk_cell HK3.out 1).trans rfl; clear ho hb hg hat) | (refine R_app_str_step (w0 := w2) (W := w2) w.heap.size (by rfl) (.tmp 56) (.tmp 58) (by rfl) v2 ((acc ++ [81]) ++ [(y.size : Int)]) y (by rfl) (by rfl) HO3.out (Below.refl _ _) HZ3.out (by have := HA.out; (try simp only [List.length_append, List.length_cons, List.length_nil]); omega) ?_; intro v3 w3 ho hb hg; have HB4 := Aside0.mk (HB3.out.trans hb); have HK4 := Aside0.mk (blk_grown HK3.out hg (Kd.R_ne HO3.out HK3.out (by decide))); have HZ4 := Aside0.mk (Nat.le_trans HZ3.out hg.size); have HO4 := Aside0.mk ho; have q4 : w3.cell? ⟨wr.heap.size, 1, none⟩ = some (.string y) := (blk_cell HK4.out 1).trans rfl; clear ho hb hg))
          go_wp2_with fail
          go_roundg (l.length - (i + 1))
          case measure =>
            have := C1.out
            omega
          case rel =>
            refine ⟨i + 1, ((acc ++ [81]) ++ [(y.size : Int)]) ++ bytesOf y, by have := C1.out; omega, rfl, by simp, ⟨HO4.out, ?_⟩, ⟨HE.out.trans (HD.out.trans ?_)⟩, HB4⟩
            · have := HO.out.2
              have := K2.out
              simp only [List.length_append, List.length_cons, List.length_nil, bytesOf_length]
              omega
            · have := K2.out
              simp only [encF, if_pos this, if_true, ← List.append_assoc]
        · have k3 : ((48 : Int) < (y.size : Int)) := by omega
          go_wp2_with fail
          go_ret2
          refine ⟨.inr ⟨HE.out.trans (HD.out.trans ?_), rfl⟩, HB.out.trans ((below_alloc (Below.refl wr.heap.size wr) _).mono HB.out.size)⟩
          simp only [encF, if_neg k2, if_true]
      · by_cases k2 : y.size = 0
        · have k4 : y = ⟨#[]⟩ := by
            obtain ⟨d⟩ := y
            have : d.size = 0 := k2
            rw [Array.size_eq_zero_iff.1 this]
          subst k4
          clear k2
          by_cases k5 : c = 66 ∨ c = 69
          · have HZ : Aside0 (w.heap.size ≤ (wr.alloc (.cells #[.int .u8 c, .string ⟨#[]⟩] 64)).heap.size) := ⟨Nat.le_trans HB.out.size (below_alloc (Below.refl wr.heap.size wr) _).size⟩
            have HO1 := Aside0.mk (Kd.R_below HO.out.1 (below_alloc (Below.refl wr.heap.size wr) (.cells #[.int .u8 c, .string ⟨#[]⟩] 64)))
            rcases k5 with k5 | k5
            · subst k5
              go_wp2_with (((with_reducible refine gate_builtin (b := .append) (xs := #[.tmp 44, .tmp 47]) rfl ?_); at_builtin; refine Kd.R_append (Kd.int .u8) (w0 := (wr.alloc (.cells #[.int .u8 66, (.string ⟨#[]⟩ : Value)] 64))) (W := (wr.alloc (.cells #[.int .u8 66, (.string ⟨#[]⟩ : Value)] 64))) w.heap.size rfl (.tmp 44) (.tmp 47) 54 5 (.int .u8 0) 1 rfl Try.underlying54 info5 rfl (by decide) (by omega) u4 acc 66 [.int .u8 66] (fun _ => True) (fun _ => False) rfl (sl_at (al_size wr _)) rfl (fun _ hk => hk.elim) (fun _ _ => trivial) HO1.out (Below.refl _ _) HZ.out (by have := HA.out; (try simp only [List.length_append, List.length_cons, List.length_nil]); omega) ?_; intro v1 w1 ho hb hg hat; have HB2 := Aside0.mk (((HB.out.trans ((below_alloc (Below.refl wr.heap.size wr) (.cells #[.int .u8 66, (.string ⟨#[]⟩ : Value)] 64)).mono HB.out.size))).trans hb); have HK2 := Aside0.mk (blk_grown (heap_alloc_new wr (.cells #[.int .u8 66, (.string ⟨#[]⟩ : Value)] 64)) hg (Kd.R_ne HO1.out (heap_alloc_new wr (.cells #[.int .u8 66, (.string ⟨#[]⟩ : Value)] 64)) (by decide))); have HZ2 := Aside0.mk (Nat.le_trans HZ.out hg.size); have HO2 := Aside0.mk ho; have q2 : w1.cell? ⟨wr.heap.size, 1, none⟩ = some ((.string ⟨#[]⟩ : Value)) := (blk_cell HK2.out 1).trans rfl; clear ho hb hg hat))
              go_roundg (l.length - (i + 1))
              case measure =>
                have := C1.out
                omega
              case rel =>
                refine ⟨i + 1, acc ++ [66], by have := C1.out; omega, rfl, by simp, ⟨HO2.out, ?_⟩, ⟨HE.out.trans (HD.out.trans ?_)⟩, HB2⟩
                · have := HO.out.2
                  simp only [List.length_append, List.length_cons, List.length_nil]
                  omega
                · rfl
            · subst k5
              go_wp2_with (((with_reducible refine gate_builtin (b := .append) (xs := #[.tmp 44, .tmp 47]) rfl ?_); at_builtin; refine Kd.R_append (Kd.int .u8) (w0 := (wr.alloc (.cells #[.int .u8 69, (.string ⟨#[]⟩ : Value)] 64))) (W := (wr.alloc (.cells #[.int .u8 69, (.string ⟨#[]⟩ : Value)] 64))) w.heap.size rfl (.tmp 44) (.tmp 47) 54 5 (.int .u8 0) 1 rfl Try.underlying54 info5 rfl (by decide) (by omega) u4 acc 69 [.int .u8 69] (fun _ => True) (fun _ => False) rfl (sl_at (al_size wr _)) rfl (fun _ hk => hk.elim) (fun _ _ => trivial) HO1.out (Below.refl _ _) HZ.out (by have := HA.out; (try simp only [List.length_append, List.length_cons, List.length_nil]); omega) ?_; intro v1 w1 ho hb hg hat; have HB2 := Aside0.mk (((HB.out.trans ((below_alloc (Below.refl wr.heap.size wr) (.cells #[.int .u8 69, (.string ⟨#[]⟩ : Value)] 64)).mono HB.out.size))).trans hb); have HK2 := Aside0.mk (blk_grown (heap_alloc_new wr (.cells #[.int .u8 69, (.string ⟨#[]⟩ : Value)] 64)) hg (Kd.R_ne HO1.out (heap_alloc_new wr (.cells #[.int .u8 69, (.string ⟨#[]⟩ : Value)] 64)) (by decide))); have HZ2 := Aside0.mk (Nat.le_trans HZ.out hg.size); have HO2 := Aside0.mk ho; have q2 : w1.cell? ⟨wr.heap.size, 1, none⟩ = some ((.string ⟨#[]⟩ : Value)) := (blk_cell HK2.out 1).trans rfl; clear ho hb hg hat))
              go_roundg (l.length - (i + 1))
              case measure =>
                have := C1.out
                omega
              case rel =>
                refine ⟨i + 1, acc ++ [69], by have := C1.out; omega, rfl, by simp, ⟨HO2.out, ?_⟩, ⟨HE.out.trans (HD.out.trans ?_)⟩, HB2⟩
                · have := HO.out.2
                  simp only [List.length_append, List.length_cons, List.length_nil]
                  omega
                · rfl
          · have k6 : c ≠ 66 := fun h => k5 (.inl h)
            have k7 : c ≠ 69 := fun h => k5 (.inr h)
            go_wp2_with fail
            go_ret2
            refine ⟨.inr ⟨HE.out.trans (HD.out.trans ?_), rfl⟩, HB.out.trans ((below_alloc (Below.refl wr.heap.size wr) _).mono HB.out.size)⟩
            simp only [encF, if_neg k1, if_neg k5]
        · have k8 : ¬ y.toList = [] := fun h => k2 (by
            rw [ByteArray.toList_eq] at h
            obtain ⟨⟨d⟩⟩ := y
            exact congrArg List.length h)
          by_cases k5 : c = 66
          · subst k5
            go_wp2_with fail
            go_ret2
            refine ⟨.inr ⟨HE.out.trans (HD.out.trans ?_), rfl⟩, HB.out.trans ((below_alloc (Below.refl wr.heap.size wr) _).mono HB.out.size)⟩
            simp [encF, k1, k2]
          · by_cases k6 : c = 69
            · subst k6
              go_wp2_with fail
              go_ret2
              refine ⟨.inr ⟨HE.out.trans (HD.out.trans ?_), rfl⟩, HB.out.trans ((below_alloc (Below.refl wr.heap.size wr) _).mono HB.out.size)⟩
              simp [encF, k1, k2]
            · go_wp2_with fail
              go_ret2
              refine ⟨.inr ⟨HE.out.trans (HD.out.trans ?_), rfl⟩, HB.out.trans ((below_alloc (Below.refl wr.heap.size wr) _).mono HB.out.size)⟩
              simp [encF, k1, k2]
    · go_wp2_with fail
      have : i = l.length := by omega
      subst this
      go_ret2
      refine ⟨.inl ⟨acc, u4, ?_, rfl, HO.out.1⟩, HB.out⟩
      rw [HE.out, List.drop_length]
      rfl
end Go.Proofs.Ytpnbeifbapcmdaa.St
