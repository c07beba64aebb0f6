/- The document's session's Feed; slices.Clone at frames and replies; a session's Clone. -/
import Derived.Test.YthjjblnkaikmlaaMxK
import Derived.Deep.RegionLawGrows
import Derived.Handy
import Derived.Lib.SliceRun
import Derived.StillTailTactics
namespace Go.Proofs.Ythjjblnkaikmlaa.Mx
open Go.RowKit Go.Proofs.Ythjjblnkaikmlaa.St Go.Proofs.Ythjjblnkaikmlaa.PMuxOnce Go.Proofs.YthjjblnkaikmlaaW.PrintWords Go.Proofs.YthjjblnkaikmlaaW.PrintLast Go.Proofs.YthjjblnkaikmlaaW.PrintMore
set_option linter.unusedVariables false
set_option linter.unusedSimpArgs false
attribute [local go_sem] max2_int min2_int max_two min_two
theorem row_reads44 {e b : Nat} {S : Nat → Prop} {w : World} {A : Option Addr} {n c : Nat} {l : List S44} (h : Kd.R k44 e w b S (.slice A n c) l) : n = l.length ∧ (A = none → n = 0 ∧ c = 0) ∧ (∀ b', A = some b' → ∀ j u, (flat l)[j]? = some u → w.cell? (b'.add j) = some u) := by
  obtain ⟨_, hl, ho⟩ := row_iff.1 h
  rcases ho with ⟨h1, h2⟩ | ⟨g, cap, cur, h1, h2, h3, h4, h5, h6, h7⟩
  · injection h1 with a1 a2 a3
    exact ⟨by omega, fun _ => ⟨a2, a3⟩, fun b' hb => (by rw [a1] at hb; cases hb)⟩
  · injection h1 with a1 a2 a3
    refine ⟨a2, fun hn => (by rw [a1] at hn; cases hn), fun b' hb j u hu => ?_⟩
    rw [a1] at hb
    injection hb with hb
    subst hb
    have hj : (⟨g, 0, none⟩ : Addr).add j = ⟨g, j, none⟩ := by unfold Addr.add; split <;> simp_all
    rw [hj, cell_of_row w g j cur e (0, 0) h3]
    rw [← h7, List.getElem?_take] at hu
    split at hu
    · simpa using hu
    · cases hu
theorem slice_full44 (A : Option Addr) (n c : Nat) (hn : n ≤ c) (W : World) : (Instr.slice 22 (.slice A n c) none (some (.int .i64 (n : Int))) (some (.int .i64 (n : Int)))).run Try.prog W = .ok (.slice A n n) W := by
  have hu := Try.underlying22
  have hk : (Try.prog.info? 44).map (fun i => i.size) = some 2 := by kernel_rfl
  cases A <;> simp [Instr.slice, Instr.sliceBounds, Instr.sliceBound, hu, run_underlying, hn, Result.andThen, go_sem]
theorem app_none (W : World) (A A1 : Option Addr) (n n1 : Nat) (hA : A = none → n = 0) : (Builtin.append_ #[22, 22] 22 #[.slice A n n, .slice A1 0 n1]).run Try.prog W = .ok (.slice A n n) W := by
  have ht := Try.underlying22
  obtain ⟨i0, hi, h1, h2, h3⟩ := info_parts info44
  cases A with
  | none =>
    obtain rfl := hA rfl
    cases A1 with
    | none => simp [Builtin.append_, run_underlying ht, sizeOf, typeInfo, hi, Builtin.lenOf, Builtin.firstCells, storeCells, loadCellsFrom, go_sem]
    | some a1 => simp [Builtin.append_, run_underlying ht, sizeOf, typeInfo, hi, Builtin.lenOf, Builtin.firstCells, storeCells, loadCellsFrom, go_sem]
  | some a =>
    cases A1 with
    | none => simp [Builtin.append_, run_underlying ht, sizeOf, typeInfo, hi, Builtin.lenOf, Builtin.firstCells, storeCells, loadCellsFrom, go_sem]
    | some a1 => simp [Builtin.append_, run_underlying ht, sizeOf, typeInfo, hi, Builtin.lenOf, Builtin.firstCells, storeCells, loadCellsFrom, go_sem]
section
variable {ops : Array Oper} {o : Oper} {a : Act} {W : World} {K : Act → World → Prop} {Q : Exit → Act → World → Prop} {E : Prop}
/-- Frames behind a row whose slice ends at its length: nothing, or a copy. -/
theorem step_app_cut (hg : o.guard = none) (s x : Operand) (hop : o.op = Op.call { callee := Callee.builtin Builtin.append, args := #[s, x], argTypes := #[22, 22] }) (hty : o.type = 22)
    (T : Nat → Prop) (b : Nat) (xs ys : List S44) (A : Option Addr) (c : Nat) (A1 : Option Addr) (n1 : Nat) (ok1 : Nat → Prop) (b1 : Nat) (hs : a.eval s = .slice A xs.length xs.length) (hx : a.eval x = .slice A1 ys.length n1)
    (HA : DA T b W (.slice A xs.length c) xs) (HY : Kd.R k44 44 W b1 ok1 (.slice A1 ys.length n1) ys) (hfresh : ∀ k, W.heap.size ≤ k → T k) (hb : b ≤ W.heap.size) (hl : xs.length + ys.length ≤ 1000000)
    (hK : ∀ v1 w1, DA T b w1 v1 (xs ++ ys) → W.grownBy w1 none → K (a.put o.dst v1) w1) :
    if Region.wanted o (yielded ops a.tmps) = true then Oper.wp Try.prog o a W K Q else E := by
  obtain ⟨i0, hi0, hz0, hz1, hz2⟩ := info_parts info44
  rcases ys with _ | ⟨y, r⟩
  · have hw : Region.wanted o (yielded ops a.tmps) = true := by simp [Region.wanted, hg]
    rw [if_pos hw]
    have hnA : A = none → xs.length = 0 := fun h => by
      rcases HA with ⟨h1, h2⟩ | ⟨q, cap, cur, h1, _⟩
      · rw [h2]; rfl
      · rw [h] at h1; cases h1
    have hrun := app_none W A A1 xs.length n1 hnA
    have hda : DA T b W (.slice A xs.length xs.length) (xs ++ []) := by
      rw [List.append_nil]
      rcases HA with ⟨h1, h2⟩ | ⟨q, cap, cur, h1, h2, h3, h4, h5, h6, h7, h8⟩
      · injection h1 with e1 e2 e3
        exact .inl ⟨by rw [e1, h2]; rfl, h2⟩
      · injection h1 with e1 e2 e3
        exact .inr ⟨q, xs.length, cur, by rw [e1], h2, h3, h4, Nat.le_refl _, by omega, h7, .inl ⟨rfl, by rcases h8 with h8 | h8 <;> omega⟩⟩
    unfold Oper.wp
    have hx0 : a.eval x = .slice A1 0 n1 := hx
    simp [execOp, hop, resolve, invoke, builtin, hs, hx0, hty, hrun, Result.andThen]
    exact hK _ _ hda (World.grownBy.refl W _)
  · obtain ⟨ad, eA⟩ : ∃ ad, A1 = some ad := by
      cases A1 with
      | some ad => exact ⟨ad, rfl⟩
      | none => have := (row_reads44 HY).2.1 rfl; simp at this
    subst eA
    refine step_append_grows hg s x 22 hop 44 i0 _ 2 24 Try.underlying22 hi0 hz0 hz1 hz2 rfl (by omega) A xs.length xs.length (flat xs) hs (fun h => ?_) (flat_len xs) (fun b' hb' j u hu => ?_) ad (r.length + 1) n1 (flat (y :: r)) hx (flat_len (y :: r)) ((row_reads44 HY).2.2 ad rfl) (one_cell (y :: r)) (by omega) (by simp only [maxLen]; simp only [List.length_cons] at hl; omega) (by simp only [List.length_cons] at hl; omega) ?_
    · rcases HA with ⟨h1, h2⟩ | ⟨q, cap, cur, h1, _⟩
      · rw [h2]; exact ⟨rfl, rfl⟩
      · rw [h] at h1; cases h1
    · rcases HA with ⟨h1, h2⟩ | ⟨q, cap, cur, h1, h2, h3, h4, h5, h6, h7, h8⟩
      · rw [h2] at hu; simp [flat] at hu
      · injection h1 with e1 e2 e3
        rw [e1] at hb'
        injection hb' with hb'
        subst hb'
        have hj : (⟨q, 0, none⟩ : Addr).add j = ⟨q, j, none⟩ := by unfold Addr.add; split <;> simp_all
        rw [hj, cell_of_row W q j cur 44 (0, 0) h4]
        rw [← h7, List.getElem?_take] at hu
        split at hu
        · simpa using hu
        · cases hu
    · intro v1 w1 hown hgr
      refine hK v1 w1 (DA.of_R (row_iff.2 ⟨fun k hk => ?_, ?_⟩)) hgr
      · obtain ⟨g', cap, cur, he, hge, _⟩ := hown.2.resolve_left (fun h => by have := h.2; omega)
        have hk : g' = k := by simpa [he, Value.ownBlock] using hk
        exact hfresh k (by omega)
      · rw [List.length_append, flat_app]
        exact own_less hown hb
end
def dfed (D : DSt) (fr : List S44) (B2 : ByteArray) (bad2 : Bool) : DSt := { D with B := B2, bad := bad2, ahead := D.ahead ++ fr ++ (if bad2 = true ∧ D.bad = false then [⟨0, ⟨#[]⟩⟩] else []) }
def dfeedD (D : DSt) (fr : List S44) (B2 : ByteArray) (bad2 : Bool) : Int × DSt := if D.code = 7 then (3, D) else if 4 ≤ D.ahead.length then (5, D) else (0, dfed D fr B2 bad2)
theorem world_cut (w : World) (b : Nat) (hb : b ≤ w.heap.size) : ∃ w0 : World, w0.heap.size = b ∧ Below b w0 w := by
  refine ⟨{ w with heap := w.heap.extract 0 b }, by simp; omega, ⟨rfl, rfl, rfl, by simp; omega, fun k hk => ?_⟩⟩
  simp [Array.getElem?_extract, hk]
  omega
theorem app_one (T : Nat → Prop) (b : Nat) (W : World) (xs : List S44) (A : Option Addr) (c : Nat) (ty : TypeId) (HA : DA T b W (.slice A xs.length c) xs) (hfresh : ∀ k, W.heap.size ≤ k → T k) (hb : b ≤ W.heap.size) (hl : xs.length ≤ 1000000) :
    ∃ v1 w1, (Builtin.append_ #[22, 22] ty #[.slice A xs.length c, .slice (some ⟨W.heap.size, 0, none⟩) 1 1]).run Try.prog (W.alloc (.cells #[.int .u8 0, .string ⟨#[]⟩] 44)) = .ok v1 w1 ∧ DA T b w1 v1 (xs ++ [⟨0, ⟨#[]⟩⟩]) ∧ (W.alloc (.cells #[.int .u8 0, .string ⟨#[]⟩] 44)).grownBy w1 (Value.slice A xs.length c).ownBlock := by
  obtain ⟨i0, hi0, hz0, hz1, hz2⟩ := info_parts info44
  have hnews : ∀ j u, ([.int .u8 0, .string ⟨#[]⟩] : List Value)[j]? = some u → (W.alloc (.cells #[.int .u8 0, .string ⟨#[]⟩] 44)).cell? ((⟨W.heap.size, 0, none⟩ : Addr).add j) = some u := World.news_of_block (cs := #[.int .u8 0, .string ⟨#[]⟩]) (t := 44) (fr := (0, 0)) (heap_alloc_new W _)
  have hone : ∀ u ∈ ([.int .u8 0, .string ⟨#[]⟩] : List Value), u.oneCell' = true := one_cell [⟨0, ⟨#[]⟩⟩]
  have hW : W.heap.size ≤ (W.alloc (.cells #[.int .u8 0, .string ⟨#[]⟩] 44)).heap.size := by simp
  have own : ∀ v : Value, v.ownBlock = (Value.slice A xs.length c).ownBlock ∨ v.ownBlock = some (W.alloc (.cells #[.int .u8 0, .string ⟨#[]⟩] 44)).heap.size → ∀ k, v.ownBlock = some k → T k := fun v hv k hk => by
    rcases hv with hv | hv
    · rw [hv] at hk
      rcases HA with ⟨h1, _⟩ | ⟨q, cap, cur, h1, h2, _⟩
      · rw [h1] at hk; cases hk
      · rw [h1] at hk
        injection hk with hk
        exact hk ▸ h2
    · rw [hv] at hk
      injection hk with hk
      exact hfresh k (by omega)
  have hown : (W.alloc (.cells #[.int .u8 0, .string ⟨#[]⟩] 44)).ownsRow b 44 2 (.slice A xs.length c) xs.length (flat xs) ∨ (∃ a, A = some a ∧ c = xs.length ∧ ∀ j u, (flat xs)[j]? = some u → (W.alloc (.cells #[.int .u8 0, .string ⟨#[]⟩] 44)).cell? (a.add j) = some u) := by
    rcases HA with ⟨h1, h2⟩ | ⟨q, cap, cur, h1, h2, h3, h4, h5, h6, h7, h8⟩
    · left
      rw [h1, h2]
      exact World.ownsRow_nil _ b 44 2
    · injection h1 with e1 e2 e3
      subst e1 e3
      have h4' : (W.alloc (.cells #[.int .u8 0, .string ⟨#[]⟩] 44)).heap[q]? = some (.cells cur 44 (0, 0)) := (Below.heap_alloc _ _ _ (blk_lt h4)).trans h4
      rcases h8 with h8 | h8
      · right
        refine ⟨_, rfl, h8.1, fun j u hu => ?_⟩
        have hj : (⟨q, 0, none⟩ : Addr).add j = ⟨q, j, none⟩ := by unfold Addr.add; split <;> simp_all
        rw [hj, cell_of_row _ q j cur 44 (0, 0) h4']
        rw [← h7, List.getElem?_take] at hu
        split at hu
        · simpa using hu
        · cases hu
      · left
        exact ⟨flat_len xs, .inr ⟨q, c, cur, rfl, h3, h4', h5, h6, h8, h7⟩⟩
  have fin : ∀ v1 w1 B, b ≤ B → World.ownsRow w1 B 44 2 v1 (xs.length + 1) (flat xs ++ [.int .u8 0, .string ⟨#[]⟩]) → (∀ k, v1.ownBlock = some k → T k) → DA T b w1 v1 (xs ++ [⟨0, ⟨#[]⟩⟩]) := fun v1 w1 B hB ho hT => DA.of_R (row_iff.2 ⟨hT, by
    rw [List.length_append, flat_app]
    exact own_less ho hB⟩)
  rcases hown with ho | ⟨a, rfl, rfl, hr⟩
  · obtain ⟨v1, w1, h1, h2, h3, _, h5⟩ := run_append_own_at (P := Try.prog) (W.alloc (.cells #[.int .u8 0, .string ⟨#[]⟩] 44)) b 22 ty 44 i0 _ 2 24 Try.underlying22 hi0 hz0 hz1 hz2 rfl (by omega) _ _ _ ho ⟨W.heap.size, 0, none⟩ 1 1 [.int .u8 0, .string ⟨#[]⟩] rfl hnews hone (by simp only [maxLen]; omega) (by omega) (Nat.le_trans hb hW)
    exact ⟨v1, w1, h1, fin v1 w1 b (Nat.le_refl _) h2 (own v1 h5), h3⟩
  · obtain ⟨v1, w1, h1, h2, h3⟩ := run_append_arg_grows (P := Try.prog) (W.alloc (.cells #[.int .u8 0, .string ⟨#[]⟩] 44)) 22 ty 44 i0 _ 2 24 Try.underlying22 hi0 hz0 hz1 hz2 rfl (by omega) a xs.length xs.length (flat xs) (flat_len xs) hr ⟨W.heap.size, 0, none⟩ 1 1 [.int .u8 0, .string ⟨#[]⟩] rfl hnews (by omega) (by simp only [maxLen]; omega) (by omega)
    refine ⟨v1, w1, h1, fin v1 w1 _ (Nat.le_trans hb hW) h2 (fun k hk => ?_), ⟨h3.os, h3.tape, h3.output, h3.size, fun k hk _ => h3.block k hk (by simp)⟩⟩
    obtain ⟨g', cap, cur, he, hge, _⟩ := h2.2.resolve_left (fun h => by have := h.2; omega)
    have hk : g' = k := by simpa [he, Value.ownBlock] using hk
    exact hfresh k (by omega)
section
variable {ops : Array Oper} {rest : List Oper} {o : Oper} {a : Act} {Q : Exit → Act → World → Prop}
theorem DA_append {W : World} (hgd : o.guard = none) (s x : Operand) (hop : o.op = .call { callee := .builtin .append, args := #[s, x], argTypes := #[22, 22] })
    (T : Nat → Prop) (b : Nat) (xs : List S44) (A : Option Addr) (c : Nat) (hs : a.eval s = .slice A xs.length c) (hx : a.eval x = .slice (some ⟨W.heap.size, 0, none⟩) 1 1)
    (HA : DA T b W (.slice A xs.length c) xs) (hfresh : ∀ k, W.heap.size ≤ k → T k) (hb : b ≤ W.heap.size) (hl : xs.length ≤ 1000000)
    (h : ∀ v1 w1, DA T b w1 v1 (xs ++ [⟨0, ⟨#[]⟩⟩]) → W.grownBy w1 (Value.slice A xs.length c).ownBlock → wpList Try.prog ops Q rest (a.put o.dst v1) w1) :
    wpList Try.prog ops Q (o :: rest) a (W.alloc (.cells #[.int .u8 0, .string ⟨#[]⟩] 44)) := by
  obtain ⟨v1, w1, hrun, hda, hg⟩ := app_one T b W xs A c o.type HA hfresh hb hl
  have h' := h v1 w1 hda (World.grownBy.trans (World.grownBy_alloc W _ _) hg)
  refine wpList_plain hgd fun K hK => ?_
  unfold Oper.wp execOp
  simp only [hop, resolve, invoke, builtin, Sem.run_bind, Sem.run_pure, Result.andThen_ok, List.map_toArray, List.map_cons, List.map_nil, hs, hx, hrun]
  exact hK _ _ h'
end
theorem DA.own {T : Nat → Prop} {b : Nat} {w : World} {v : Value} {xs : List S44} (h : DA T b w v xs) : ∀ k, v.ownBlock = some k → T k := fun k hk => by
  rcases h with ⟨h1, _⟩ | ⟨q, cap, cur, h1, h2, _⟩
  · rw [h1] at hk; cases hk
  · rw [h1] at hk
    injection hk with hk
    exact hk ▸ h2
theorem DA.own_base {T : Nat → Prop} {b : Nat} {w : World} {v : Value} {xs : List S44} (h : DA T b w v xs) : ∀ k, v.ownBlock = some k → b ≤ k := fun k hk => by
  rcases h with ⟨h1, _⟩ | ⟨q, cap, cur, h1, h2, h3, _⟩
  · rw [h1] at hk; cases hk
  · rw [h1] at hk
    injection hk with hk
    exact hk ▸ h3
theorem DA.own_typed {T : Nat → Prop} {b : Nat} {w : World} {v : Value} {xs : List S44} (h : DA T b w v xs) : ∀ k, v.ownBlock = some k → ∃ cs, w.heap[k]? = some (.cells cs 44 (0, 0)) := fun k hk => by
  rcases h with ⟨h1, _⟩ | ⟨q, cap, cur, h1, h2, h3, h4, _⟩
  · rw [h1] at hk; cases hk
  · rw [h1] at hk
    injection hk with hk
    exact ⟨cur, hk ▸ h4⟩
theorem DA.own_ne {T : Nat → Prop} {b g t : Nat} {w : World} {v : Value} {xs : List S44} {cs : Array Value} (h : DA T b w v xs) (hb : w.heap[g]? = some (.cells cs t (0, 0))) (ht : t ≠ 44) : some g ≠ v.ownBlock := fun e => by
  obtain ⟨cs', hc⟩ := h.own_typed g e.symm
  rw [hb] at hc
  injection hc with hc
  injection hc with _ hc
  exact ht hc
theorem DR.told_apart {T : Nat → Prop} {b g : Nat} {w : World} {va vt : Value} {D : DSt} (h : DR T b w g va vt D) : Kd.R k42 42 w b (fun k => T k ∧ some k ≠ va.ownBlock) vt D.told :=
  Kd.R_mono (Kd.R_bound h.2.2.2.2) fun k hk => ⟨hk.1, fun he => by
    obtain ⟨cs, hc⟩ := h.2.2.2.1.own_typed k he.symm
    obtain ⟨_, _, _, q, hq, cs', hc'⟩ := hk
    rw [hc] at hc'
    injection hc' with hc'
    injection hc' with _ hc'
    exact (by decide : ∀ q, q ∈ 42 :: k42.E → 44 ≠ q) q hq hc'⟩
set_option maxHeartbeats 4000000 in
set_option maxRecDepth 100000 in
theorem dfeed_calls' (T : Nat → Prop) (b g : Nat) (D : DSt) (a1 : ByteArray) (fr : List S44) (B2 : ByteArray) (bad2 : Bool) (K : Nat) (w : World) (h : DX T b w g D) (hf : stopcockref09_Reader_Feed.f K D.B D.bad a1 = some (fr, B2, bad2)) (hfr : fr.length ≤ 100000) :
    Calls Try.prog 17 #[.pointer (some ⟨g, 0, none⟩), .string a1] w fun e w' => e = .returned (.int .i64 (dfeedD D fr B2 bad2).1) ∧ DGoes T b w g w' (dfeedD D fr B2 bad2).2 := by
  by_cases h7 : D.code = 7
  · have e : dfeedD D fr B2 bad2 = (3, D) := by unfold dfeedD; rw [if_pos h7]
    rw [e]
    have E7 : (D.code == 7) = true := by rw [h7]; rfl
    have H := Aside0.mk h
    obtain ⟨h1, h2, va, vt, hm⟩ := h
    obtain ⟨c0, c1, c2, c3, c4, c5, c6⟩ := hm.cells
    clear hm h1 h2 hf e h7
    go_enter Try.func17, Try.ntmps17
    go_wp2_with fail
    go_ret
    exact ⟨rfl, DGoes.refl H.out⟩
  have N7 : (D.code == 7) = false := beq_eq_false_iff_ne.2 h7
  have H := Aside0.mk h
  obtain ⟨h1, h2, va, vt, hm⟩ := h
  obtain ⟨A, c, ev, hc⟩ := hm.2.2.2.1.form
  subst ev
  obtain ⟨d0, d1, d2, d3, d4, d5, d6⟩ := hm.cells
  by_cases h4 : 4 ≤ D.ahead.length
  · have e : dfeedD D fr B2 bad2 = (5, D) := by unfold dfeedD; rw [if_neg h7, if_pos h4]
    rw [e]
    have E4 : (4 : Int) ≤ (D.ahead.length : Int) := by omega
    clear hm h1 h2 hf e h7 h4
    go_enter Try.func17, Try.ntmps17
    go_wp2_with fail
    go_ret
    exact ⟨rfl, DGoes.refl H.out⟩
  have E4 : ¬ (4 : Int) ≤ (D.ahead.length : Int) := by omega
  have e : dfeedD D fr B2 bad2 = (0, dfed D fr B2 bad2) := by unfold dfeedD; rw [if_neg h7, if_neg h4]
  rw [e]
  obtain ⟨w0, hw0, hbw0⟩ := world_cut w b h2
  have hsl := slice_full44 A D.ahead.length c hc
  have HM := Aside0.mk hm
  have HI := Aside0.mk h1
  have HW := Aside0.mk h2
  have HF := Aside0.mk hf
  have HFR := Aside0.mk hfr
  have H4 := Aside0.mk h4
  have HW0 := Aside0.mk hw0
  have HBW0 := Aside0.mk hbw0
  clear hm h1 h2 hf hfr e h7 h4 hc hw0 hbw0
  go_enter Try.func17, Try.ntmps17
  go_wp2_with fail
  have hHeld : (fun w' => w'.cell? ⟨g, 2, none⟩ = some (.slice A D.ahead.length c)) w.drew := d2
  refine wp_region_noPanic ?_
  refine wp_region_any (by kernel_rfl) ?_
  change wpAny _ _ _ _ _ _ _ (World.drew _)
  refine wpAny_of_T (S := (fun w' => w'.cell? ⟨g, 2, none⟩ = some (.slice A D.ahead.length c))) (t := 24) _ _ _ _ ?_
  refine wpAnyT_take (i := 0) (oi := { dst := some 22, op := Op.move (Operand.tmp 0), type := 55, pos := "ref.go:48", after := #[], guard := none }) (v := ?vr0x1) rfl (by kernel_rfl) (by kernel_rfl) (by kernel_rfl) (by kernel_rfl) (fun _ _ _ h => h) (Or.inl ⟨by rfl, ?hyr0x1⟩) hHeld ?restr0x1
  case hyr0x1 =>
    intro w hSw
    try dsimp only at hSw
    go_simp
    all_goals with_reducible rfl
  (try simp only [Act.put, List.setIfInBounds_toArray, List.set_cons_zero, List.set_cons_succ])
  refine wpAnyT_take (i := 1) (oi := { dst := some 23, op := Op.move (Operand.tmp 0), type := 55, pos := "ref.go:48", after := #[], guard := none }) (v := ?vr1x2) rfl (by kernel_rfl) (by kernel_rfl) (by kernel_rfl) (by kernel_rfl) (fun _ _ _ h => h) (Or.inl ⟨by rfl, ?hyr1x2⟩) hHeld ?restr1x2
  case hyr1x2 =>
    intro w hSw
    try dsimp only at hSw
    go_simp
    all_goals with_reducible rfl
  (try simp only [Act.put, List.setIfInBounds_toArray, List.set_cons_zero, List.set_cons_succ])
  refine wpAnyT_take (i := 2) (oi := { dst := some 24, op := Op.nilCheck (Operand.tmp 23), type := 0, pos := "ref.go:48", after := #[{ on := 1, ground := Ground.data }], guard := none }) (v := ?vr2x3) rfl (by kernel_rfl) (by kernel_rfl) (by kernel_rfl) (by kernel_rfl) (fun _ _ _ h => h) (Or.inl ⟨by rfl, ?hyr2x3⟩) hHeld ?restr2x3
  case hyr2x3 =>
    intro w hSw
    try dsimp only at hSw
    go_simp
    all_goals with_reducible rfl
  (try simp only [Act.put, List.setIfInBounds_toArray, List.set_cons_zero, List.set_cons_succ])
  refine wpAnyT_take (i := 3) (oi := { dst := some 25, op := Op.fieldAddr 57 (Operand.tmp 24) 1, type := 0, pos := "ref.go:48", after := #[{ on := 2, ground := Ground.data }], guard := none }) (v := ?vr3x4) rfl (by kernel_rfl) (by kernel_rfl) (by kernel_rfl) (by kernel_rfl) (fun _ _ _ h => h) (Or.inl ⟨by rfl, ?hyr3x4⟩) hHeld ?restr3x4
  case hyr3x4 =>
    intro w hSw
    try dsimp only at hSw
    go_simp
    all_goals with_reducible rfl
  (try simp only [Act.put, List.setIfInBounds_toArray, List.set_cons_zero, List.set_cons_succ])
  refine wpAnyT_take (i := 4) (oi := { dst := some 26, op := Op.load 22 (Operand.tmp 25), type := 22, pos := "ref.go:48", after := #[{ on := 3, ground := Ground.data }], guard := none }) (v := ?vr4x5) rfl (by kernel_rfl) (by kernel_rfl) (by kernel_rfl) (by kernel_rfl) (fun _ _ _ h => h) (Or.inl ⟨by rfl, ?hyr4x5⟩) hHeld ?restr4x5
  case hyr4x5 =>
    intro w hSw
    try dsimp only at hSw
    go_simp
    all_goals with_reducible rfl
  (try simp only [Act.put, List.setIfInBounds_toArray, List.set_cons_zero, List.set_cons_succ])
  refine wpAnyT_take (i := 5) (oi := { dst := some 27, op := Op.move (Operand.tmp 0), type := 55, pos := "ref.go:48", after := #[], guard := none }) (v := ?vr5x6) rfl (by kernel_rfl) (by kernel_rfl) (by kernel_rfl) (by kernel_rfl) (fun _ _ _ h => h) (Or.inl ⟨by rfl, ?hyr5x6⟩) hHeld ?restr5x6
  case hyr5x6 =>
    intro w hSw
    try dsimp only at hSw
    go_simp
    all_goals with_reducible rfl
  (try simp only [Act.put, List.setIfInBounds_toArray, List.set_cons_zero, List.set_cons_succ])
  refine wpAnyT_take (i := 6) (oi := { dst := some 28, op := Op.nilCheck (Operand.tmp 27), type := 0, pos := "ref.go:48", after := #[{ on := 5, ground := Ground.data }], guard := none }) (v := ?vr6x7) rfl (by kernel_rfl) (by kernel_rfl) (by kernel_rfl) (by kernel_rfl) (fun _ _ _ h => h) (Or.inl ⟨by rfl, ?hyr6x7⟩) hHeld ?restr6x7
  case hyr6x7 =>
    intro w hSw
    try dsimp only at hSw
    go_simp
    all_goals with_reducible rfl
  (try simp only [Act.put, List.setIfInBounds_toArray, List.set_cons_zero, List.set_cons_succ])
  refine wpAnyT_take (i := 7) (oi := { dst := some 29, op := Op.fieldAddr 57 (Operand.tmp 28) 1, type := 0, pos := "ref.go:48", after := #[{ on := 6, ground := Ground.data }], guard := none }) (v := ?vr7x8) rfl (by kernel_rfl) (by kernel_rfl) (by kernel_rfl) (by kernel_rfl) (fun _ _ _ h => h) (Or.inl ⟨by rfl, ?hyr7x8⟩) hHeld ?restr7x8
  case hyr7x8 =>
    intro w hSw
    try dsimp only at hSw
    go_simp
    all_goals with_reducible rfl
  (try simp only [Act.put, List.setIfInBounds_toArray, List.set_cons_zero, List.set_cons_succ])
  refine wpAnyT_take (i := 8) (oi := { dst := some 30, op := Op.load 22 (Operand.tmp 29), type := 22, pos := "ref.go:48", after := #[{ on := 7, ground := Ground.data }], guard := none }) (v := ?vr8x9) rfl (by kernel_rfl) (by kernel_rfl) (by kernel_rfl) (by kernel_rfl) (fun _ _ _ h => h) (Or.inl ⟨by rfl, ?hyr8x9⟩) hHeld ?restr8x9
  case hyr8x9 =>
    intro w hSw
    try dsimp only at hSw
    go_simp
    all_goals with_reducible rfl
  (try simp only [Act.put, List.setIfInBounds_toArray, List.set_cons_zero, List.set_cons_succ])
  refine wpAnyT_take (i := 9) (oi := { dst := some 31, op := Op.call { callee := Callee.builtin Builtin.len, args := #[Operand.tmp 30], argTypes := #[22] }, type := 3, pos := "ref.go:48", after := #[{ on := 8, ground := Ground.data }], guard := none }) (v := ?vr9x10) rfl (by kernel_rfl) (by kernel_rfl) (by kernel_rfl) (by kernel_rfl) (fun _ _ _ h => h) (Or.inl ⟨by rfl, ?hyr9x10⟩) hHeld ?restr9x10
  case hyr9x10 =>
    intro w hSw
    try dsimp only at hSw
    go_simp
    all_goals with_reducible rfl
  (try simp only [Act.put, List.setIfInBounds_toArray, List.set_cons_zero, List.set_cons_succ])
  refine wpAnyT_take (i := 10) (oi := { dst := some 32, op := Op.move (Operand.tmp 0), type := 55, pos := "ref.go:48", after := #[], guard := none }) (v := ?vr10x11) rfl (by kernel_rfl) (by kernel_rfl) (by kernel_rfl) (by kernel_rfl) (fun _ _ _ h => h) (Or.inl ⟨by rfl, ?hyr10x11⟩) hHeld ?restr10x11
  case hyr10x11 =>
    intro w hSw
    try dsimp only at hSw
    go_simp
    all_goals with_reducible rfl
  (try simp only [Act.put, List.setIfInBounds_toArray, List.set_cons_zero, List.set_cons_succ])
  refine wpAnyT_take (i := 11) (oi := { dst := some 33, op := Op.nilCheck (Operand.tmp 32), type := 0, pos := "ref.go:48", after := #[{ on := 10, ground := Ground.data }], guard := none }) (v := ?vr11x12) rfl (by kernel_rfl) (by kernel_rfl) (by kernel_rfl) (by kernel_rfl) (fun _ _ _ h => h) (Or.inl ⟨by rfl, ?hyr11x12⟩) hHeld ?restr11x12
  case hyr11x12 =>
    intro w hSw
    try dsimp only at hSw
    go_simp
    all_goals with_reducible rfl
  (try simp only [Act.put, List.setIfInBounds_toArray, List.set_cons_zero, List.set_cons_succ])
  refine wpAnyT_take (i := 12) (oi := { dst := some 34, op := Op.fieldAddr 57 (Operand.tmp 33) 1, type := 0, pos := "ref.go:48", after := #[{ on := 11, ground := Ground.data }], guard := none }) (v := ?vr12x13) rfl (by kernel_rfl) (by kernel_rfl) (by kernel_rfl) (by kernel_rfl) (fun _ _ _ h => h) (Or.inl ⟨by rfl, ?hyr12x13⟩) hHeld ?restr12x13
  case hyr12x13 =>
    intro w hSw
    try dsimp only at hSw
    go_simp
    all_goals with_reducible rfl
  (try simp only [Act.put, List.setIfInBounds_toArray, List.set_cons_zero, List.set_cons_succ])
  refine wpAnyT_take (i := 13) (oi := { dst := some 35, op := Op.load 22 (Operand.tmp 34), type := 22, pos := "ref.go:48", after := #[{ on := 12, ground := Ground.data }], guard := none }) (v := ?vr13x14) rfl (by kernel_rfl) (by kernel_rfl) (by kernel_rfl) (by kernel_rfl) (fun _ _ _ h => h) (Or.inl ⟨by rfl, ?hyr13x14⟩) hHeld ?restr13x14
  case hyr13x14 =>
    intro w hSw
    try dsimp only at hSw
    go_simp
    all_goals with_reducible rfl
  (try simp only [Act.put, List.setIfInBounds_toArray, List.set_cons_zero, List.set_cons_succ])
  refine wpAnyT_take (i := 14) (oi := { dst := some 36, op := Op.call { callee := Callee.builtin Builtin.len, args := #[Operand.tmp 35], argTypes := #[22] }, type := 3, pos := "ref.go:48", after := #[{ on := 13, ground := Ground.data }], guard := none }) (v := ?vr14x15) rfl (by kernel_rfl) (by kernel_rfl) (by kernel_rfl) (by kernel_rfl) (fun _ _ _ h => h) (Or.inl ⟨by rfl, ?hyr14x15⟩) hHeld ?restr14x15
  case hyr14x15 =>
    intro w hSw
    try dsimp only at hSw
    go_simp
    all_goals with_reducible rfl
  (try simp only [Act.put, List.setIfInBounds_toArray, List.set_cons_zero, List.set_cons_succ])
  refine wpAnyT_take (i := 15) (oi := { dst := some 37, op := Op.slice 22 (Operand.tmp 26) none (some (Operand.tmp 31)) (some (Operand.tmp 36)), type := 22, pos := "ref.go:48", after := #[{ on := 4, ground := Ground.data }, { on := 9, ground := Ground.data }, { on := 14, ground := Ground.data }], guard := none }) (v := ?vr15x16) rfl (by kernel_rfl) (by kernel_rfl) (by kernel_rfl) (by kernel_rfl) (fun _ _ _ h => h) (Or.inl ⟨by rfl, ?hyr15x16⟩) hHeld ?restr15x16
  case hyr15x16 =>
    intro w hSw
    try dsimp only at hSw
    go_simp
    all_goals with_reducible rfl
  (try simp only [Act.put, List.setIfInBounds_toArray, List.set_cons_zero, List.set_cons_succ])
  refine wpAnyT_take (i := 16) (oi := { dst := some 38, op := Op.move (Operand.tmp 0), type := 55, pos := "ref.go:48", after := #[], guard := none }) (v := ?vr16x17) rfl (by kernel_rfl) (by kernel_rfl) (by kernel_rfl) (by kernel_rfl) (fun _ _ _ h => h) (Or.inl ⟨by rfl, ?hyr16x17⟩) hHeld ?restr16x17
  case hyr16x17 =>
    intro w hSw
    try dsimp only at hSw
    go_simp
    all_goals with_reducible rfl
  (try simp only [Act.put, List.setIfInBounds_toArray, List.set_cons_zero, List.set_cons_succ])
  refine wpAnyT_take (i := 17) (oi := { dst := some 39, op := Op.nilCheck (Operand.tmp 38), type := 0, pos := "ref.go:48", after := #[{ on := 16, ground := Ground.data }], guard := none }) (v := ?vr17x18) rfl (by kernel_rfl) (by kernel_rfl) (by kernel_rfl) (by kernel_rfl) (fun _ _ _ h => h) (Or.inl ⟨by rfl, ?hyr17x18⟩) hHeld ?restr17x18
  case hyr17x18 =>
    intro w hSw
    try dsimp only at hSw
    go_simp
    all_goals with_reducible rfl
  (try simp only [Act.put, List.setIfInBounds_toArray, List.set_cons_zero, List.set_cons_succ])
  refine wpAnyT_take (i := 18) (oi := { dst := some 40, op := Op.fieldAddr 57 (Operand.tmp 39) 0, type := 0, pos := "ref.go:48", after := #[{ on := 17, ground := Ground.data }], guard := none }) (v := ?vr18x19) rfl (by kernel_rfl) (by kernel_rfl) (by kernel_rfl) (by kernel_rfl) (fun _ _ _ h => h) (Or.inl ⟨by rfl, ?hyr18x19⟩) hHeld ?restr18x19
  case hyr18x19 =>
    intro w hSw
    try dsimp only at hSw
    go_simp
    all_goals with_reducible rfl
  (try simp only [Act.put, List.setIfInBounds_toArray, List.set_cons_zero, List.set_cons_succ])
  refine wpAnyT_take (i := 19) (oi := { dst := some 41, op := Op.move (Operand.tmp 1), type := 9, pos := "ref.go:48", after := #[], guard := none }) (v := ?vr19x20) rfl (by kernel_rfl) (by kernel_rfl) (by kernel_rfl) (by kernel_rfl) (fun _ _ _ h => h) (Or.inl ⟨by rfl, ?hyr19x20⟩) hHeld ?restr19x20
  case hyr19x20 =>
    intro w hSw
    try dsimp only at hSw
    go_simp
    all_goals with_reducible rfl
  (try simp only [Act.put, List.setIfInBounds_toArray, List.set_cons_zero, List.set_cons_succ])
  refine wpAnyT_one (i := 20) (o := { dst := some 42, op := Op.call { callee := Callee.value (Operand.func 14), args := #[Operand.tmp 40, Operand.tmp 41], argTypes := #[48, 9] }, type := 22, pos := "ref.go:48", after := #[{ on := 18, ground := Ground.data }, { on := 19, ground := Ground.data }], guard := none }) rfl (by kernel_rfl) (fun KK hKK => ?_)
  go_simp
  refine (dfeed_calls ⟨.slice A D.ahead.length c, D.code, D.alone, D.text, vt⟩ K g D.B D.bad a1 fr B2 bad2 w0 w.drew ⟨HM.out.blk, by rw [HW0.out]; exact HM.out.2.1⟩ (by rw [HW0.out]; exact HBW0.out.trans ((Below.refl b w).drew)) HF.out).mono ?_
  rintro e w1 ⟨v, rfl, i1, i2, i3, i4⟩
  obtain ⟨A1, n1, rfl⟩ := Kd.R_slice i1
  have hkd : Kept w w1 (fun k => k = g) := ⟨i4.1, fun i hi hn => i4.2 i hi hn (by simp)⟩
  have q2 : w1.cell? ⟨g, 2, none⟩ = some (.slice A D.ahead.length c) := (blk_cell i2.1 2).trans rfl
  have hH20 : (fun w' => w'.cell? ⟨g, 2, none⟩ = some (.slice A D.ahead.length c)) w1 := q2
  have HO1 := Aside0.mk i1
  have HX1 := Aside0.mk i2.1
  have HK1 := Aside0.mk hkd
  have HB1 : Aside0 (Below b w w1) := ⟨by
    rw [HW0.out] at i3
    exact ⟨i3.os.trans HBW0.out.os.symm, i3.tape.trans HBW0.out.tape.symm, i3.output.trans HBW0.out.output.symm, i4.1, fun k hk => (i3.block k hk).trans (HBW0.out.block k hk).symm⟩⟩
  clear i1 i2 i3 i4 hkd q2
  refine hKK _ _ (fun _ => hH20) ?_
  clear hKK KK
  (try simp only [Act.put, List.setIfInBounds_toArray, List.set_cons_zero, List.set_cons_succ])
  refine wpAnyT_one (i := 21) (o := { dst := some 43, op := Op.call { callee := Callee.builtin Builtin.append, args := #[Operand.tmp 37, Operand.tmp 42], argTypes := #[22, 22] }, type := 22, pos := "ref.go:48", after := #[{ on := 15, ground := Ground.data }, { on := 20, ground := Ground.data }, { on := 20, ground := Ground.chain }], guard := none }) rfl (by kernel_rfl) (fun KK hKK => ?_)
  refine step_app_cut rfl (.tmp 37) (.tmp 42) rfl rfl (fun k => T k ∨ w.heap.size ≤ k) b D.ahead fr A c A1 n1 (fun _ => True) _ rfl rfl (((HM.out.2.2.2.1.apart HM.out.blk (by decide)).step (w1 := w1) (fun k hk hl => HK1.out.2 k hl hk.2)).mono (fun k hk => .inl hk.1)) HO1.out (fun k hk => .inr (Nat.le_trans HK1.out.1 hk)) (Nat.le_trans HW.out HK1.out.1) (by have := H4.out; have := HFR.out; omega) ?_
  intro v2 w2 ho hg
  obtain ⟨A2, n2, e2, hc2⟩ := ho.form
  obtain ⟨a2, ha2⟩ : ∃ a2, a2 = D.ahead ++ fr := ⟨_, rfl⟩
  rw [← ha2] at ho e2 hc2
  subst e2
  have HA2 := Aside0.mk ha2
  clear ha2
  have hbk : w2.heap[g]? = some (.cells (cellsZ ⟨.slice A D.ahead.length c, D.code, D.alone, D.text, vt⟩ B2 bad2) 57 (0, 0)) := blk_grown HX1.out hg (by simp)
  have q2 : w2.cell? ⟨g, 2, none⟩ = some (.slice A D.ahead.length c) := (blk_cell hbk 2).trans rfl
  have qf : w2.frozen? ⟨g, 2, none⟩ = false := blk_frozen hbk 2
  have hH21 : (fun w' => w'.cell? ⟨g, 2, none⟩ = some (.slice A D.ahead.length c)) w2 := q2
  have HDA := Aside0.mk ho
  have HBK := Aside0.mk hbk
  have HG := Aside0.mk hg
  clear ho hg hbk
  refine hKK _ _ (fun _ => hH21) ?_
  clear hKK KK
  (try simp only [Act.put, List.setIfInBounds_toArray, List.set_cons_zero, List.set_cons_succ])
  refine wpAnyT_one (i := 22) (o := { dst := some 44, op := Op.nilCheck (Operand.tmp 22), type := 0, pos := "ref.go:48", after := #[{ on := 0, ground := Ground.data }, { on := 0, ground := Ground.phase }, { on := 1, ground := Ground.phase }, { on := 2, ground := Ground.phase }, { on := 3, ground := Ground.phase }, { on := 4, ground := Ground.phase }, { on := 5, ground := Ground.phase }, { on := 6, ground := Ground.phase }, { on := 7, ground := Ground.phase }, { on := 8, ground := Ground.phase }, { on := 9, ground := Ground.phase }, { on := 10, ground := Ground.phase }, { on := 11, ground := Ground.phase }, { on := 12, ground := Ground.phase }, { on := 13, ground := Ground.phase }, { on := 14, ground := Ground.phase }, { on := 15, ground := Ground.phase }, { on := 16, ground := Ground.phase }, { on := 17, ground := Ground.phase }, { on := 18, ground := Ground.phase }, { on := 19, ground := Ground.phase }, { on := 20, ground := Ground.phase }, { on := 21, ground := Ground.phase }], guard := none }) rfl (by kernel_rfl) (fun KK hKK => ?_)
  go_simp
  refine hKK _ _ (fun _ => hH21) ?_
  clear hKK KK
  (try simp only [Act.put, List.setIfInBounds_toArray, List.set_cons_zero, List.set_cons_succ])
  refine wpAnyT_take (i := 23) (oi := { dst := some 45, op := Op.fieldAddr 57 (Operand.tmp 44) 1, type := 0, pos := "ref.go:48", after := #[{ on := 22, ground := Ground.data }, { on := 0, ground := Ground.phase }, { on := 1, ground := Ground.phase }, { on := 2, ground := Ground.phase }, { on := 3, ground := Ground.phase }, { on := 4, ground := Ground.phase }, { on := 5, ground := Ground.phase }, { on := 6, ground := Ground.phase }, { on := 7, ground := Ground.phase }, { on := 8, ground := Ground.phase }, { on := 9, ground := Ground.phase }, { on := 10, ground := Ground.phase }, { on := 11, ground := Ground.phase }, { on := 12, ground := Ground.phase }, { on := 13, ground := Ground.phase }, { on := 14, ground := Ground.phase }, { on := 15, ground := Ground.phase }, { on := 16, ground := Ground.phase }, { on := 17, ground := Ground.phase }, { on := 18, ground := Ground.phase }, { on := 19, ground := Ground.phase }, { on := 20, ground := Ground.phase }, { on := 21, ground := Ground.phase }], guard := none }) (v := ?vr23x21) rfl (by kernel_rfl) (by kernel_rfl) (by kernel_rfl) (by kernel_rfl) (fun _ _ _ h => h) (Or.inl ⟨by rfl, ?hyr23x21⟩) hH21 ?restr23x21
  case hyr23x21 =>
    intro w hSw
    try dsimp only at hSw
    go_simp
    all_goals with_reducible rfl
  (try simp only [Act.put, List.setIfInBounds_toArray, List.set_cons_zero, List.set_cons_succ])
  refine wpAnyT_one (i := 24) (o := { dst := none, op := Op.store 22 (Operand.tmp 45) (Operand.tmp 43), type := 0, pos := "ref.go:48", after := #[{ on := 23, ground := Ground.data }, { on := 21, ground := Ground.data }, { on := 21, ground := Ground.chain }, { on := 0, ground := Ground.phase }, { on := 1, ground := Ground.phase }, { on := 2, ground := Ground.phase }, { on := 3, ground := Ground.phase }, { on := 4, ground := Ground.phase }, { on := 5, ground := Ground.phase }, { on := 6, ground := Ground.phase }, { on := 7, ground := Ground.phase }, { on := 8, ground := Ground.phase }, { on := 9, ground := Ground.phase }, { on := 10, ground := Ground.phase }, { on := 11, ground := Ground.phase }, { on := 12, ground := Ground.phase }, { on := 13, ground := Ground.phase }, { on := 14, ground := Ground.phase }, { on := 15, ground := Ground.phase }, { on := 16, ground := Ground.phase }, { on := 17, ground := Ground.phase }, { on := 18, ground := Ground.phase }, { on := 19, ground := Ground.phase }, { on := 20, ground := Ground.phase }, { on := 21, ground := Ground.phase }], guard := none }) rfl (by kernel_rfl) (fun KK hKK => ?_)
  go_simp
  refine hKK _ _ (fun h => absurd rfl h) ?_
  clear hKK KK
  (try simp only [Act.put, List.setIfInBounds_toArray, List.set_cons_zero, List.set_cons_succ])
  refine wpAnyT_done (by kernel_rfl) ?_ _
  refine NoPanic.normal ?_
  have hrow : DR (fun k => T k ∨ w.heap.size ≤ k) b (w2.setCell ⟨g, 2, none⟩ (Value.slice A2 a2.length n2)) g (.slice A2 a2.length n2) vt { D with B := B2, bad := bad2, ahead := a2 } := by
    have ht : Kd.R k42 42 w2 b (fun k => T k ∨ w.heap.size ≤ k) vt D.told := Kd.R_mono (Kd.R_step (w1 := w2) (Kd.R_types HM.out.2.2.2.2 HM.out.blk (by decide)) (fun k hk hl => (HG.out.block k (Nat.lt_of_lt_of_le hl HK1.out.1) (by simp)).trans (HK1.out.2 k hl hk.2))) (fun k hk => .inl hk.1)
    exact ⟨.inl HM.out.1, HM.out.2.1, by simpa [cellsZ] using blk_set HBK.out 2 (Value.slice A2 a2.length n2), HDA.out.set HBK.out (by decide) _ _, Kd.R_set ht HBK.out (by decide) _ _⟩
  have hk3 : Kept w (w2.setCell ⟨g, 2, none⟩ (Value.slice A2 a2.length n2)) T := ((⟨HK1.out.1, fun i hi hn => HK1.out.2 i hi (fun e => hn (e ▸ HM.out.1))⟩ : Kept w w1 T) |> fun h => Kept.of_grown HG.out h (fun k hk => by cases hk)).setCell (.inl HM.out.1) _
  have hb3 : Below b w (w2.setCell ⟨g, 2, none⟩ (Value.slice A2 a2.length n2)) := Below.setCell (HB1.out.trans (Below.grown (Below.refl b w1) HG.out (Nat.le_trans HW.out HK1.out.1) (fun k h => by cases h))) HM.out.2.1 _
  clear hHeld hH20 hH21 q2 qf HBK HG HDA HX1 HO1 d0 d1 d2 d3 d4 d5 d6 hsl
  generalize w2.setCell ⟨g, 2, none⟩ (Value.slice A2 a2.length n2) = w3 at *
  obtain ⟨k0, k1, k2, k3, k4, k5, k6⟩ := hrow.cells
  have kf2 := hrow.frozen 2
  have HROW := Aside0.mk hrow
  have HK3 := Aside0.mk hk3
  have HB3 := Aside0.mk hb3
  clear hrow hk3 hb3
  have HD : Aside0 ((if bad2 = true ∧ D.bad = false then ([⟨0, ⟨#[]⟩⟩] : List S44) else []) = [] → dfed D fr B2 bad2 = { D with B := B2, bad := bad2, ahead := a2 }) := ⟨fun h => by unfold dfed; rw [h, HA2.out, List.append_nil]⟩
  have HD1 : Aside0 ((if bad2 = true ∧ D.bad = false then ([⟨0, ⟨#[]⟩⟩] : List S44) else []) = [⟨0, ⟨#[]⟩⟩] → dfed D fr B2 bad2 = { D with B := B2, bad := bad2, ahead := a2 ++ [⟨0, ⟨#[]⟩⟩] }) := ⟨fun h => by unfold dfed; rw [h, HA2.out]⟩
  rcases hb2 : bad2 with _ | _
  · rw [hb2] at k1
    have E9 := Aside0.mk (HD.out (by rw [hb2]; rfl))
    clear hb2
    go_wp2_with fail
    all_goals go_ret
    all_goals rw [E9.out]
    all_goals exact ⟨rfl, DGoes.of HROW.out HW.out HK3.out HB3.out⟩
  · rcases hbd : D.bad with _ | _
    · rw [hb2] at k1
      have E9 := Aside0.mk (HD1.out (by rw [hb2, hbd]; rfl))
      clear hb2 hbd
      go_wp2_with ((with_reducible refine gate_builtin (b := .append) (xs := #[.tmp 59, .tmp 61]) rfl ?_); at_builtin; refine DA_append rfl (.tmp 59) (.tmp 61) rfl (fun k => T k ∨ w.heap.size ≤ k) b a2 A2 n2 rfl rfl HROW.out.2.2.2.1 (fun k hk => .inr (Nat.le_trans HK3.out.1 hk)) (Nat.le_trans HW.out HK3.out.1) (by rw [HA2.out, List.length_append]; have := H4.out; have := HFR.out; omega) ?_; intro v5 w5 ho hg; obtain ⟨a5, ha5⟩ : ∃ a5, a5 = a2 ++ [(⟨0, ⟨#[]⟩⟩ : S44)] := ⟨_, rfl⟩; rw [← ha5] at ho; have HA5 := Aside0.mk ha5; clear ha5; obtain ⟨A5, n5, e5, _⟩ := ho.form; subst e5; have hbk5 := blk_grown HROW.out.blk hg (HROW.out.2.2.2.1.own_ne HROW.out.blk (by decide)); have q5 : w5.cell? ⟨g, 2, none⟩ = some (.slice A2 a2.length n2) := (blk_cell hbk5 2).trans rfl; have qf5 : w5.frozen? ⟨g, 2, none⟩ = false := blk_frozen hbk5 2; have HDA5 := Aside0.mk ho; have HG5 := Aside0.mk hg; have HBK5 := Aside0.mk hbk5; clear ho hg hbk5)
      all_goals go_ret
      all_goals rw [E9.out, ← HA5.out]
      all_goals
        (have hown := HROW.out.2.2.2.1.own
         have ht : Kd.R k42 42 w5 b (fun k => T k ∨ w.heap.size ≤ k) vt D.told := Kd.R_mono (Kd.R_step (w1 := w5) (HROW.out.told_apart) (fun k hk hl => HG5.out.block k hl (fun e => hk.2 e))) (fun k hk => hk.1)
         have hdr : DR (fun k => T k ∨ w.heap.size ≤ k) b (w5.setCell ⟨g, 2, none⟩ (Value.slice A5 a5.length n5)) g (Value.slice A5 a5.length n5) vt { D with B := B2, bad := bad2, ahead := a5 } := ⟨.inl HM.out.1, HM.out.2.1, by simpa [cellsZ] using blk_set HBK5.out 2 (Value.slice A5 a5.length n5), HDA5.out.set HBK5.out (by decide) _ _, Kd.R_set ht HBK5.out (by decide) _ _⟩
         exact ⟨rfl, DGoes.of hdr HW.out ((Kept.of_grown HG5.out HK3.out (fun k hk => hown k hk)).setCell (.inl HM.out.1) _) (Below.setCell (HB3.out.trans (Below.grown (Below.refl b w3) HG5.out (Nat.le_trans HW.out HK3.out.1) HROW.out.2.2.2.1.own_base)) HM.out.2.1 _)⟩)
    · rw [hb2] at k1
      have E9 := Aside0.mk (HD.out (by rw [hb2, hbd]; rfl))
      clear hb2 hbd
      go_wp2_with fail
      all_goals go_ret
      all_goals rw [E9.out]
      all_goals exact ⟨rfl, DGoes.of HROW.out HW.out HK3.out HB3.out⟩
end Go.Proofs.Ythjjblnkaikmlaa.Mx
