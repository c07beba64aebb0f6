/- MuxAnswers' function walked: for every input it answers true. -/
import Derived.Test.YthjjblnkaikmlaaMxE
import Derived.Deep.RegionWith
import Derived.Handy
import Derived.Lib.SliceRun
import Derived.StillTailTactics
namespace Go.Proofs.Ythjjblnkaikmlaa.Mx
open Go.RowKit Go.Proofs.Ythjjblnkaikmlaa.St Go.Proofs.Ythjjblnkaikmlaa.PMuxOnce Go.Proofs.YthjjblnkaikmlaaW.PrintWords Go.Proofs.YthjjblnkaikmlaaW.PrintLast Go.Proofs.YthjjblnkaikmlaaW.PrintMore
set_option linter.unusedVariables false
set_option linter.unusedSimpArgs false
attribute [local go_sem] max2_int min2_int max_two min_two
set_option maxHeartbeats 8000000 in
set_option maxRecDepth 100000 in
theorem answers_calls (A0 : Option Addr) (c0 : Nat) (l : List S44) (A1 : Option Addr) (c1 : Nat) (ws : List S37) (w : World) (hr0 : Kd.C k44 w A0 l.length l) (hc0 : l.length ≤ c0) (hr1 : Kd.C k37 w A1 ws.length ws) (hc1 : ws.length ≤ c1) (hl : l.length ≤ 140737488351232) (hlw : ws.length ≤ 140737488351232) :
    Calls Try.prog 3 #[.slice A0 l.length c0, .slice A1 ws.length c1] w fun e w' => e = .returned (.bool true) ∧ Below w.heap.size w w' := by
  have HR0 := Aside0.mk hr0
  have HC0 := Aside0.mk hc0
  have HR1 := Aside0.mk hr1
  have HC1 := Aside0.mk hc1
  have HL := Aside0.mk hl
  have HLW := Aside0.mk hlw
  clear hr0 hr1 hc0 hc1 hl hlw
  have hcv := fun (W : World) (s : ByteArray) => conv_str W s
  go_enter Try.func3, Try.ntmps3
  go_wp2_with fail
  refine (live_calls w).mono ?_
  rintro _ w1 ⟨rfl, hb1⟩
  have HB1 := Aside0.mk hb1
  clear hb1
  go_wp2_with fail
  refine (refbytes_calls A0 c0 l w1 (Kd.C_below HR0.out HB1.out) HC0.out HL.out).mono ?_
  rintro _ w2 ⟨rfl, hb2⟩
  have HB2 := Aside0.mk (HB1.out.trans (hb2.mono HB1.out.size))
  clear hb2
  obtain ⟨bs, e, hbs⟩ : ∃ bs e, ansB (runE [] l) = (bs, e) := ⟨_, _, rfl⟩
  rw [hbs]
  have HBS := Aside0.mk hbs
  clear hbs
  go_wp2_with fail
  refine (new_calls' w2).mono ?_
  rintro _ w3 ⟨g, S, rfl, hS, hm, hb⟩
  have HM3 := Aside0.mk hm
  have HS3 := Aside0.mk hS
  have HB3 := Aside0.mk (HB2.out.trans (hb.mono HB2.out.size))
  have HB23 := Aside0.mk hb
  clear hm hb hS
  by_cases he : e = 0
  rotate_left 1
  · have E0 : (e != 0) = true := bne_iff_ne.2 he
    have HE := Aside0.mk he
    clear he
    go_wp2_with fail
    go_ret
    exact ⟨rfl, HB3.out⟩
  subst he
  by_cases hn : (100 : Int) < (l.length : Int)
  · go_wp2_with fail
    go_ret
    exact ⟨rfl, HB3.out⟩
  have HN : Aside0 (l.length ≤ 100) := ⟨by omega⟩
  go_wp2_with fail
  obtain ⟨s1, hfm, hbz, hok⟩ := feed_enc l bs HBS.out HN.out
  obtain ⟨rest, fr, hrow⟩ := bw_row w3 bs
  have hnl := nums_len bs
  have hfd := feed_calls' S w2.heap.size g M0 (some ⟨w3.heap.size, 0, none⟩) (grownCap w3 bs.size 0 5) (nums bs) (Lib.bytesWorld w3 5 bs) (HM3.out.step (bw_below w3 bs)) (row_kept hrow (fun h => Nat.lt_irrefl _ (HM3.out.1 _ h)) (by have := HN.out; omega)) (by rw [hnl]; exact grownCap_ge _ _ _ _) (nums_by bs) (by have := HN.out; omega)
  rw [hnl] at hfd
  refine hfd.mono ?_
  rw [hfm]
  rintro _ w4 ⟨rfl, hgo⟩
  obtain ⟨S4, hs4, hm4, hk4, hb4⟩ := hgo
  have HB4 : Aside0 (Below w.heap.size w w4) := ⟨HB3.out.trans (((bw_below w3 bs).mono HB3.out.size).trans (hb4.mono HB2.out.size))⟩
  have HT4 := Aside0.mk (Tri.start hm4)
  have HOK := Aside0.mk hok
  clear hfd hs4 hm4 hk4 hb4 hfm hbz hok hrow hnl hn
  go_wp2_with fail
  go_loopg [9, 10, 11, 49] 1000 (fun kq v9 v10 v11 v49 w' => ∃ (i : Nat) (M : MSt) (xs ys : List ByteArray) (Aa Ab : Option Addr) (ca cb : Nat), kq = 1000 - i ∧ v9 = .slice Aa xs.length ca ∧ v10 = .slice Ab ys.length cb ∧ v11 = .int .i64 (xs.length : Int) ∧ v49 = .int .i64 (i : Int) ∧ Aside0 (i + rk M ≤ 300) ∧ Aside0 (Inv M) ∧ Aside0 (xs ++ pend M = Qs l) ∧ Aside0 (resT M.told = ys) ∧ Aside0 (xs.length = ys.length ∧ xs.length ≤ i ∧ M.told.length + M.ahead.length ≤ 100 + i) ∧ Aside0 (Tri w2.heap.size w' g M (.slice Aa xs.length ca) xs (.slice Ab ys.length cb) ys) ∧ Aside0 (Below w.heap.size w w'))
  case atStart => exact ⟨0, ⟨s1, l, false, 66, 0, false, ⟨#[]⟩, []⟩, [], [], none, none, 0, 0, rfl, rfl, rfl, rfl, rfl, ⟨by have := HN.out; show 0 + (3 * l.length + 0) ≤ 300; omega⟩, ⟨.inl rfl, .inl rfl, HOK.out, fun _ h => by cases h⟩, ⟨rfl⟩, ⟨rfl⟩, ⟨rfl, Nat.le_refl _, by have := HN.out; show 0 + l.length ≤ 100 + 0; omega⟩, HT4, HB4⟩
  case round =>
    obtain ⟨i, M, xs, ys, Aa, Ab, ca, cb, rfl, rfl, rfl, rfl, rfl, HI, HV, HP, HRS, HLN, HT, HB⟩ := hrel
    obtain ⟨S, hms, hgoes⟩ := HT.out.sess
    have HMS := Aside0.mk hms
    have HGOES := Aside0.mk hgoes
    clear hms hgoes
    have hi : (i : Int) < 1000 := by have := HI.out; omega
    have hna := next_NA M HV.out
    obtain ⟨d, t, M2, hp⟩ : ∃ d t M2, nextM M = ((d, t), M2) := ⟨_, _, _, rfl⟩
    rw [hp] at hna
    have HNA := Aside0.mk hna
    have HP2 := Aside0.mk hp
    clear hna hp
    go_wp2_with fail
    refine (next_calls' S w2.heap.size g M wr HMS.out (okT_of HV.out) (by have := HLN.out.2.2; have := HI.out; omega)).mono ?_
    rw [HP2.out]
    rintro _ w5 ⟨rfl, hg5⟩
    have HT5 := Aside0.mk (HGOES.out w5 M2 hg5)
    have HB5 : Aside0 (Below w.heap.size w w5) := ⟨by obtain ⟨_, _, _, _, h⟩ := hg5; exact HB.out.trans (h.mono HB2.out.size)⟩
    clear hg5
    obtain ⟨hn0, hcase⟩ := HNA.out
    have HN0 := Aside0.mk hn0
    clear hn0
    rcases hcase with ⟨hd, hpd, hrs, hot⟩ | ⟨hd, hiv, hpd, hrs, hrk⟩ | ⟨hd, X, hpd, hans⟩ | ⟨hd, hiv, hpd, hrs, hrk⟩
    · have hd : d = 0 := hd
      subst hd
      have HPD := Aside0.mk hpd
      have HRS2 := Aside0.mk hrs
      have HOT := Aside0.mk hot
      clear hpd hrs hot
      have hxq : xs = Qs l := by have := HP.out; rw [HPD.out, List.append_nil] at this; exact this
      have HXQ := Aside0.mk hxq
      obtain ⟨S5, SA, SB, hm5, ha5, hb5, dA, dB⟩ := HT5.out
      have HM5 := Aside0.mk hm5
      have HA5 := Aside0.mk ha5
      have HB5r := Aside0.mk hb5
      have HDA := Aside0.mk dA
      have HDB := Aside0.mk dB
      clear hxq hm5 ha5 hb5 dA dB
      go_wp2_with fail
      refine (replies_calls S5 w2.heap.size g M2 w5 HM5.out).mono ?_
      rintro _ w8 ⟨v8, S8, rfl, s1, s2, s3, s4, s5⟩
      obtain ⟨td, htd⟩ : ∃ td, td = M2.told := ⟨_, rfl⟩
      have hot : okTold td := by rw [htd]; exact HOT.out
      have hrt : resT td = ys := by rw [htd]; exact HRS2.out.trans HRS.out
      rw [← htd] at s3
      obtain ⟨A8, n8, rfl⟩ := Kd.R_slice s3
      have HC8 := Aside0.mk (Kd.R_reads' s3).2.2
      have HA8 := Aside0.mk (Kd.R_reads' (Kd.R_step HA5.out (fun k hk hl => s4.2 k hl (HDA.out k hk).2.1))).2.2
      have HY8 := Aside0.mk (Kd.R_reads' (Kd.R_step HB5r.out (fun k hk hl => s4.2 k hl (HDB.out k hk).2))).2.2
      have HB8 : Aside0 (Below w.heap.size w w8) := ⟨HB5.out.trans (s5.mono HB2.out.size)⟩
      have HLT : Aside0 (td.length ≤ 1000) := ⟨by have h1 : M2.told.length + M2.ahead.length ≤ M.told.length + M.ahead.length := HN0.out; have := HLN.out.2.2; have := HI.out; rw [htd]; omega⟩
      have HOTD := Aside0.mk hot
      have HRT := Aside0.mk hrt
      clear s1 s2 s3 s4 s5 htd hot hrt HDA HDB HA5 HB5r HM5
      go_wp2_with fail
      go_loopg [15, 95] td.length (fun kq v15 v95 w' => ∃ (i : Nat) (rs : List ByteArray) (Ar : Option Addr) (cr : Nat), i ≤ td.length ∧ kq = td.length - i ∧ v15 = .slice Ar rs.length cr ∧ v95 = .int .i64 (i : Int) ∧ Aside0 (rs = resT (td.take i) ∧ rs.length ≤ i) ∧ Aside0 (Kd.R Kd.string 9 w' w8.heap.size (fun _ => True) (.slice Ar rs.length cr) rs) ∧ Aside0 (Below w8.heap.size w8 w'))
      case atStart => exact ⟨0, [], none, 0, by omega, rfl, rfl, rfl, ⟨rfl, Nat.le_refl _⟩, ⟨Kd.R_nil _ _ _ _ _⟩, ⟨Below.refl _ _⟩⟩
      case round =>
        obtain ⟨i, rs, Ar, cr, hile, rfl, rfl, rfl, HRS9, HR9, HB9⟩ := hrel
        by_cases c1 : i < td.length
        · have hcr := at_T42 (Kd.C_below HC8.out HB9.out) (i : Int) (by omega) (by omega)
          obtain ⟨ad, eA, y0, y1, y2⟩ := hcr
          rw [Int.toNat_natCast] at y0 y1 y2
          obtain ⟨x, hx⟩ : ∃ x, x = rd_T42 td (i : Int) := ⟨_, rfl⟩
          rw [← hx] at y0 y1 y2
          have hxm : td[i]? = some x := by rw [hx]; unfold rd_T42; rw [Int.toNat_natCast, List.getD_eq_getElem?_getD, List.getElem?_eq_getElem c1]; rfl
          have htk : td.take (i + 1) = td.take i ++ [x] := by rw [List.take_add_one, hxm]; rfl
          have hmem : x ∈ td := List.mem_of_getElem? hxm
          have h1f : (wr.alloc (.cells #[.int .i64 x.f0, .int .i64 x.f1, .string x.f2] 42)).heap[wr.heap.size]? = some (.cells #[.int .i64 x.f0, .int .i64 x.f1, .string x.f2] 42 (0, 0)) := heap_alloc_new wr _
          have h1b : Below wr.heap.size wr (wr.alloc (.cells #[.int .i64 x.f0, .int .i64 x.f1, .string x.f2] 42)) := below_alloc (Below.refl _ _) _
          obtain ⟨w9, hw9⟩ : ∃ w9, wr.alloc (.cells #[.int .i64 x.f0, .int .i64 x.f1, .string x.f2] 42) = w9 := ⟨_, rfl⟩
          rw [hw9] at h1f h1b
          have hr9 : Kd.R Kd.string 9 w9 w8.heap.size (fun _ => True) (.slice Ar rs.length cr) rs := Kd.R_step HR9.out (fun k _ hl => h1b.block k hl)
          have hb9 : Below w8.heap.size w8 w9 := HB9.out.trans (h1b.mono HB9.out.size)
          obtain ⟨z, hz⟩ : ∃ z, z = wr.heap.size := ⟨_, rfl⟩
          rw [← hz] at h1f
          have hz' := hz.symm
          have z0 : w9.cell? ⟨z, 0, none⟩ = some (.int .i64 x.f0) := (blk_cell h1f 0).trans rfl
          have z2 : w9.cell? ⟨z, 2, none⟩ = some (.string x.f2) := (blk_cell h1f 2).trans rfl
          have HR9' := Aside0.mk hr9
          have HB9' := Aside0.mk hb9
          have HTK := Aside0.mk htk
          have hw1 : IntKind.i64.wrap ((i : Int) + 1) = (i : Int) + 1 := by rw [IntKind.wrap_i64]; have := HLT.out; omega
          have HII := Aside0.mk hile
          have HEA := Aside0.mk eA
          have hi1 : (i : Int) < (td.length : Int) := by omega
          have HOX := Aside0.mk (HOTD.out x hmem)
          clear hx hxm htk hmem h1f h1b hr9 hb9 hz hile
          subst eA
          by_cases h2 : x.f0 = 2
          · have B2 : (x.f0 == 2) = true := by rw [h2]; rfl
            have HX2 := Aside0.mk h2
            clear h2
            go_wp2_with ((with_reducible refine gate_builtin (b := .append) (xs := #[.tmp 102, .tmp 105]) rfl ?_); at_builtin; refine Kd.R_append Kd.string (w0 := w9) (W := w9) w8.heap.size rfl (.tmp 102) (.tmp 105) 32 9 (.string ⟨#[]⟩) 16 rfl Try.underlying32 info9 rfl (by decide) (by omega) (.slice Ar rs.length cr) rs x.f2 [.string x.f2] (fun _ => True) (fun _ => False) rfl rfl rfl (fun _ hk => hk.elim) (fun _ _ => trivial) HR9'.out (Below.refl _ _) HB9'.out.size (by have := HRS9.out.2; have := HLT.out; have := HII.out; omega) ?_; intro va wa ho hb hg hat; obtain ⟨Aq, nq, eq⟩ : ∃ Aq nq, va = Value.slice Aq (rs ++ [x.f2]).length nq := Kd.R_slice ho; obtain ⟨rs2, hr2⟩ : ∃ rs2, rs2 = rs ++ [x.f2] := ⟨_, rfl⟩; rw [← hr2] at eq ho; subst eq; have HR2 := Aside0.mk hr2; have HRA := Aside0.mk ho; have HBA := Aside0.mk (HB9'.out.trans hb); clear ho hb hg hat hr2)
            go_roundg (td.length - (i + 1))
            case measure => omega
            case rel => exact ⟨i + 1, rs2, Aq, nq, by omega, rfl, rfl, by go_num, ⟨by rw [HTK.out, resT_app, if_pos HX2.out, HR2.out, HRS9.out.1], by rw [HR2.out, List.length_append]; have := HRS9.out.2; simp only [List.length_cons, List.length_nil]; omega⟩, HRA, HBA⟩
          · have B2 : (x.f0 == 2) = false := beq_eq_false_iff_ne.2 h2
            have HX2 := Aside0.mk h2
            rw [HOX.out h2] at z2
            clear h2
            go_wp2_with fail
            go_roundg (td.length - (i + 1))
            case measure => omega
            case rel => exact ⟨i + 1, rs, Ar, cr, by omega, rfl, rfl, by go_num, ⟨by rw [HTK.out, resT_app, if_neg HX2.out, HRS9.out.1], by have := HRS9.out.2; omega⟩, HR9', HB9'⟩
        · have hie : i = td.length := by omega
          have hrs : rs = ys := by have := HRS9.out.1; rw [hie, List.take_length, HRT.out] at this; exact this
          rw [hrs] at HR9
          rw [hrs]
          have hi1 : ¬ (i : Int) < (td.length : Int) := by omega
          have HB10 : Aside0 (Below w.heap.size w wr) := ⟨HB8.out.trans (HB9.out.mono HB8.out.size)⟩
          have HCr := Aside0.mk (Kd.R_reads' HR9.out).2.2
          have HA10 := Aside0.mk (Kd.C_below HA8.out HB9.out)
          have HY10 := Aside0.mk (Kd.C_below HY8.out HB9.out)
          clear hrs hie hile c1 HC8
          go_wp2_with fail
          generalize wr = w10 at *
          go_loopg [18, 113] l.length (fun kq v18 v113 w' => ∃ (i : Nat) (rs : List ByteArray) (Ar : Option Addr) (cr : Nat), i ≤ l.length ∧ kq = l.length - i ∧ v18 = .slice Ar rs.length cr ∧ v113 = .int .i64 (i : Int) ∧ Aside0 (rs = Qs (l.take i) ∧ rs.length ≤ i) ∧ Aside0 (Kd.R Kd.string 9 w' w10.heap.size (fun _ => True) (.slice Ar rs.length cr) rs) ∧ Aside0 (Below w10.heap.size w10 w'))
          case atStart => exact ⟨0, [], none, 0, by omega, rfl, rfl, rfl, ⟨rfl, Nat.le_refl _⟩, ⟨Kd.R_nil _ _ _ _ _⟩, ⟨Below.refl _ _⟩⟩
          case round =>
            obtain ⟨i, rs, Ar2, cr2, hile, rfl, rfl, rfl, HQ9, HR9, HBq⟩ := hrel
            by_cases c1 : i < l.length
            · have hcr := at_T44 (Kd.C_below HR0.out (HB10.out.trans (HBq.out.mono HB10.out.size))) (i : Int) (by omega) (by omega)
              obtain ⟨ad, eA, y0, y1⟩ := hcr
              rw [Int.toNat_natCast] at y0 y1
              obtain ⟨x, hx⟩ : ∃ x, x = rd_T44 l (i : Int) := ⟨_, rfl⟩
              rw [← hx] at y0 y1
              have hxm : l[i]? = some x := by rw [hx]; unfold rd_T44; rw [Int.toNat_natCast, List.getD_eq_getElem?_getD, List.getElem?_eq_getElem c1]; rfl
              have htk : l.take (i + 1) = l.take i ++ [x] := by rw [List.take_add_one, hxm]; rfl
              have h1f : (wr.alloc (.cells #[.int .u8 x.f0, .string x.f1] 44)).heap[wr.heap.size]? = some (.cells #[.int .u8 x.f0, .string x.f1] 44 (0, 0)) := heap_alloc_new wr _
              have h1b : Below wr.heap.size wr (wr.alloc (.cells #[.int .u8 x.f0, .string x.f1] 44)) := below_alloc (Below.refl _ _) _
              obtain ⟨w9, hw9⟩ : ∃ w9, wr.alloc (.cells #[.int .u8 x.f0, .string x.f1] 44) = w9 := ⟨_, rfl⟩
              rw [hw9] at h1f h1b
              have hr9 : Kd.R Kd.string 9 w9 w10.heap.size (fun _ => True) (.slice Ar2 rs.length cr2) rs := Kd.R_step HR9.out (fun k _ hl => h1b.block k hl)
              have hb9 : Below w10.heap.size w10 w9 := HBq.out.trans (h1b.mono HBq.out.size)
              obtain ⟨z, hz⟩ : ∃ z, z = wr.heap.size := ⟨_, rfl⟩
              rw [← hz] at h1f
              have hz' := hz.symm
              have z0 : w9.cell? ⟨z, 0, none⟩ = some (.int .u8 x.f0) := (blk_cell h1f 0).trans rfl
              have z1 : w9.cell? ⟨z, 1, none⟩ = some (.string x.f1) := (blk_cell h1f 1).trans rfl
              have HR9' := Aside0.mk hr9
              have HB9' := Aside0.mk hb9
              have HTK := Aside0.mk htk
              have hw1 : IntKind.i64.wrap ((i : Int) + 1) = (i : Int) + 1 := by rw [IntKind.wrap_i64]; have := HN.out; omega
              have HII := Aside0.mk hile
              have hi1 : (i : Int) < (l.length : Int) := by omega
              clear hx hxm htk h1f h1b hr9 hb9 hz hile
              subst eA
              by_cases h2 : x.f0 = 81
              · have B2 : (x.f0 == 81) = true := by rw [h2]; rfl
                have HX2 := Aside0.mk h2
                clear h2
                go_wp2_with ((with_reducible refine gate_builtin (b := .append) (xs := #[.tmp 120, .tmp 123]) rfl ?_); at_builtin; refine Kd.R_append Kd.string (w0 := w9) (W := w9) w10.heap.size rfl (.tmp 120) (.tmp 123) 32 9 (.string ⟨#[]⟩) 16 rfl Try.underlying32 info9 rfl (by decide) (by omega) (.slice Ar2 rs.length cr2) rs x.f1 [.string x.f1] (fun _ => True) (fun _ => False) rfl rfl rfl (fun _ hk => hk.elim) (fun _ _ => trivial) HR9'.out (Below.refl _ _) HB9'.out.size (by have := HQ9.out.2; have := HN.out; have := HII.out; omega) ?_; intro va wa ho hb hg hat; obtain ⟨Aq, nq, eq⟩ : ∃ Aq nq, va = Value.slice Aq (rs ++ [x.f1]).length nq := Kd.R_slice ho; obtain ⟨rs2, hr2⟩ : ∃ rs2, rs2 = rs ++ [x.f1] := ⟨_, rfl⟩; rw [← hr2] at eq ho; subst eq; have HR2 := Aside0.mk hr2; have HRA := Aside0.mk ho; have HBA := Aside0.mk (HB9'.out.trans hb); clear ho hb hg hat hr2)
                go_roundg (l.length - (i + 1))
                case measure => omega
                case rel => exact ⟨i + 1, rs2, Aq, nq, by omega, rfl, rfl, by go_num, ⟨by rw [HTK.out, Qs_app, Qs_cons, if_pos HX2.out, HR2.out, HQ9.out.1]; rfl, by rw [HR2.out, List.length_append]; have := HQ9.out.2; simp only [List.length_cons, List.length_nil]; omega⟩, HRA, HBA⟩
              · have B2 : (x.f0 == 81) = false := beq_eq_false_iff_ne.2 h2
                have HX2 := Aside0.mk h2
                clear h2
                go_wp2_with fail
                go_roundg (l.length - (i + 1))
                case measure => omega
                case rel => exact ⟨i + 1, rs, Ar2, cr2, by omega, rfl, rfl, by go_num, ⟨by rw [HTK.out, Qs_app, Qs_cons, if_neg HX2.out, HQ9.out.1]; simp [Qs], by have := HQ9.out.2; omega⟩, HR9', HB9'⟩
            · have hie : i = l.length := by omega
              have hrs : rs = xs := by have := HQ9.out.1; rw [hie, List.take_length, ← HXQ.out] at this; exact this
              rw [hrs] at HR9
              rw [hrs]
              have hi1 : ¬ (i : Int) < (l.length : Int) := by omega
              have HB11 : Aside0 (Below w.heap.size w wr) := ⟨HB10.out.trans (HBq.out.mono HB10.out.size)⟩
              have HCq := Aside0.mk (Kd.R_reads' HR9.out).2.2
              have HA11 := Aside0.mk (Kd.C_below HA10.out HBq.out)
              have HY11 := Aside0.mk (Kd.C_below HY10.out HBq.out)
              have HCr11 := Aside0.mk (Kd.C_below HCr.out HBq.out)
              have hxy : (xs.length : Int) = (ys.length : Int) := by have := HLN.out.1; omega
              have HXY := Aside0.mk hxy
              clear hrs hie hile c1 hxy
              go_wp2_with fail
              generalize wr = w11 at *
              go_loopg [140] xs.length (fun kq v140 w' => ∃ i : Nat, i ≤ xs.length ∧ kq = xs.length - i ∧ v140 = .int .i64 (i : Int) ∧ Aside0 (Below w11.heap.size w11 w'))
              case atStart => exact ⟨0, by omega, rfl, rfl, ⟨Below.refl _ _⟩⟩
              case round =>
                obtain ⟨i, hile, rfl, rfl, HBz⟩ := hrel
                by_cases c1 : i < xs.length
                · have c2 : i < ys.length := by have := HXY.out; omega
                  obtain ⟨a1, e1, y1⟩ := Kd.at_string (Kd.C_below HA11.out HBz.out) (i : Int) (by omega) (by omega)
                  obtain ⟨a2, e2, y2⟩ := Kd.at_string (Kd.C_below HCq.out HBz.out) (i : Int) (by omega) (by omega)
                  obtain ⟨a3, e3, y3⟩ := Kd.at_string (Kd.C_below HCr11.out HBz.out) (i : Int) (by omega) (by omega)
                  obtain ⟨a4, e4, y4⟩ := Kd.at_string (Kd.C_below HY11.out HBz.out) (i : Int) (by omega) (by omega)
                  rw [Int.toNat_natCast] at y1 y2 y3 y4
                  obtain ⟨p1, hp1⟩ : ∃ p, p = rdOf ByteArray.empty xs (i : Int) := ⟨_, rfl⟩
                  obtain ⟨p2, hp2⟩ : ∃ p, p = rdOf ByteArray.empty ys (i : Int) := ⟨_, rfl⟩
                  rw [← hp1] at y1 y2
                  rw [← hp2] at y3 y4
                  have hi1 : (i : Int) < (xs.length : Int) := by omega
                  have hi2 : (i : Int) < (ys.length : Int) := by omega
                  have hi0 : (0 : Int) ≤ (i : Int) := by omega
                  have hw1 : IntKind.i64.wrap ((i : Int) + 1) = (i : Int) + 1 := by rw [IntKind.wrap_i64]; have := HLN.out; have := HI.out; omega
                  clear hp1 hp2
                  subst e1 e2 e3 e4
                  have hi1t : ((i : Int) < (xs.length : Int)) = True := eq_true hi1
                  have hi2t : ((i : Int) < (ys.length : Int)) = True := eq_true hi2
                  go_wp2_with fail
                  repeat (go_quiet (fail))
                  revert nq
                  intro nq
                  go_wp2_with fail
                  go_roundg (xs.length - (i + 1))
                  case measure => omega
                  case rel => exact ⟨i + 1, by omega, rfl, by go_num, ⟨HBz.out.trans (pw_below_drewN (Below.refl _ _) nq)⟩⟩
                · have hi1 : ¬ (i : Int) < (xs.length : Int) := by omega
                  have HB12 : Aside0 (Below w.heap.size w wr) := ⟨HB11.out.trans (HBz.out.mono HB11.out.size)⟩
                  go_wp2_with fail
                  go_ret
                  exact ⟨rfl, HB12.out⟩
    · have hd : d = 1 := hd
      subst hd
      have HIV := Aside0.mk hiv
      have HPD := Aside0.mk hpd
      have HRS2 := Aside0.mk hrs
      have HRK := Aside0.mk hrk
      clear hpd hrs hiv hrk
      obtain ⟨S5, hm5, hgo5⟩ := HT5.out.sess
      have HM5 := Aside0.mk hm5
      have HGO5 := Aside0.mk hgo5
      clear hm5 hgo5
      go_wp2_with fail
      refine (got_calls S5 w2.heap.size g M2 w5 HM5.out (by have h1 : M2.told.length + M2.ahead.length ≤ M.told.length + M.ahead.length := HN0.out; have := HLN.out.2.2; have := HI.out; omega)).mono ?_
      rintro _ w6 ⟨rfl, hg6⟩
      have HT6 := Aside0.mk (HGO5.out w6 _ hg6)
      have HB6 : Aside0 (Below w.heap.size w w6) := ⟨by obtain ⟨_, _, _, _, h⟩ := hg6; exact HB5.out.trans (h.mono HB2.out.size)⟩
      clear hg6
      go_wp2_with fail
      go_roundg (1000 - (i + 1))
      case measure => omega
      case rel => exact ⟨i + 1, (gotM M2).2, xs, ys, Aa, Ab, ca, cb, rfl, rfl, rfl, rfl, by go_num, ⟨by have h1 : rk (gotM M2).2 < rk M := HRK.out; have := HI.out; omega⟩, HIV, ⟨by rw [HPD.out]; exact HP.out⟩, ⟨by rw [HRS2.out]; exact HRS.out⟩, ⟨HLN.out.1, by have := HLN.out.2.1; omega, by have := got_len M2; have h1 : M2.told.length + M2.ahead.length ≤ M.told.length + M.ahead.length := HN0.out; have := HLN.out.2.2; omega⟩, HT6, HB6⟩
    · have hd : d = 2 := hd
      subst hd
      have HPD := Aside0.mk hpd
      have HANS := Aside0.mk hans
      clear hpd hans
      obtain ⟨SA, hra, hba, happ⟩ := HT5.out.appA
      have HRA := Aside0.mk hra
      have HAPP := Aside0.mk happ
      have HBA := Aside0.mk hba
      clear hra hba happ
      have hw1 : IntKind.i64.wrap ((xs.length : Int) + 1) = (xs.length : Int) + 1 := by rw [IntKind.wrap_i64]; have := HLN.out; have := HI.out; omega
      by_cases hz : ws.length = 0
      · have Z0 : ¬ (0 : Int) < (ws.length : Int) := by omega
        clear hz
        go_wp2_with (first | ((with_reducible refine gate_builtin (b := .append) (xs := #[.tmp 65, .tmp 67]) rfl ?_); at_builtin; refine Kd.R_append Kd.string (w0 := w5) (W := w5) w2.heap.size rfl (.tmp 65) (.tmp 67) 32 9 (.string ⟨#[]⟩) 16 rfl Try.underlying32 info9 rfl (by decide) (by omega) (.slice Aa xs.length ca) xs t [.string t] (fun k => SA k ∨ w5.heap.size ≤ k) (fun _ => False) rfl rfl rfl (fun _ hk => hk.elim) (fun _ hk => .inr hk) (Kd.R_mono HRA.out (fun _ hk => .inl hk)) (Below.refl _ _) HBA.out (by have := HLN.out; have := HI.out; omega) ?_; intro v6 w6 ho hb hg hat; obtain ⟨A6, n6, e6⟩ : ∃ A6 n6, v6 = Value.slice A6 (xs ++ [t]).length n6 := Kd.R_slice ho; obtain ⟨xs6, hx6⟩ : ∃ xs6, xs6 = xs ++ [t] := ⟨_, rfl⟩; rw [← hx6] at e6 ho; subst e6; have HX6 := Aside0.mk hx6; have HT6 := Aside0.mk (HAPP.out _ w6 _ ho hg); have HB6 : Aside0 (Below w.heap.size w w6) := ⟨HB5.out.trans (hb.mono HB2.out.size)⟩; clear ho hb hg hat hx6) | ((with_reducible refine gate_builtin (b := .append) (xs := #[.tmp 83, .tmp 85]) rfl ?_); at_builtin; obtain ⟨SB, hrb, hbb, hbp⟩ := HT6.out.swap.appA; refine Kd.R_append Kd.string (w0 := w6) (W := w6) w2.heap.size rfl (.tmp 83) (.tmp 85) 32 9 (.string ⟨#[]⟩) 16 rfl Try.underlying32 info9 rfl (by decide) (by omega) (.slice Ab ys.length cb) ys (t) [.string (t)] (fun k => SB k ∨ w6.heap.size ≤ k) (fun _ => False) rfl rfl rfl (fun _ hk => hk.elim) (fun _ hk => .inr hk) (Kd.R_mono hrb (fun _ hk => .inl hk)) (Below.refl _ _) hbb (by have := HLN.out; have := HI.out; omega) ?_; intro v7 w7 ho hb hg hat; obtain ⟨A7, n7, e7⟩ : ∃ A7 n7, v7 = Value.slice A7 (ys ++ [t]).length n7 := Kd.R_slice ho; obtain ⟨ys7, hy7⟩ : ∃ ys7, ys7 = ys ++ [t] := ⟨_, rfl⟩; rw [← hy7] at e7 ho; subst e7; have HY7 := Aside0.mk hy7; have HT7 := Aside0.mk (hbp _ w7 _ ho hg).swap; have HB7 : Aside0 (Below w.heap.size w w7) := ⟨HB6.out.trans (hb.mono HB2.out.size)⟩; clear ho hb hg hat hy7 hrb hbb hbp))
        obtain ⟨S7, hm7, hgo7⟩ := HT7.out.sess
        have HM7 := Aside0.mk hm7
        have HGO7 := Aside0.mk hgo7
        clear hm7 hgo7
        refine (answer_calls S7 w2.heap.size g M2 (t) w7 HM7.out (by have h1 : M2.told.length + M2.ahead.length ≤ M.told.length + M.ahead.length := HN0.out; have := HLN.out.2.2; have := HI.out; omega)).mono ?_
        rw [(HANS.out (t)).1]
        rintro _ w8 ⟨rfl, hg8⟩
        have HT8 := Aside0.mk (HGO7.out w8 _ hg8)
        have HB8 : Aside0 (Below w.heap.size w w8) := ⟨by obtain ⟨_, _, _, _, h⟩ := hg8; exact HB7.out.trans (h.mono HB2.out.size)⟩
        have hx6l : xs6.length = xs.length + 1 := by rw [HX6.out, List.length_append]; rfl
        have HXL := Aside0.mk hx6l
        have HYL : Aside0 (ys7.length = ys.length + 1) := ⟨by rw [HY7.out, List.length_append]; rfl⟩
        clear hg8 hx6l
        go_wp2_with fail
        go_roundg (1000 - (i + 1))
        case measure => omega
        case rel => exact ⟨i + 1, (answerM M2 (t)).2, xs6, ys7, A6, A7, n6, n7, rfl, rfl, rfl, by rw [HXL.out]; go_num, by go_num, ⟨by have h1 : rk (answerM M2 (t)).2 < rk M := (HANS.out (t)).2.2.2.2; have := HI.out; omega⟩, (HANS.out (t)).2.1 |> Aside0.mk, ⟨by have h1 := (HANS.out (t)).2.2.1; rw [h1, HX6.out, List.append_assoc]; show xs ++ (t :: X) = _; have := HPD.out; rw [← this]; exact HP.out⟩, ⟨by have h1 := (HANS.out (t)).2.2.2.1; rw [h1, HY7.out, HRS.out]⟩, ⟨by rw [HXL.out, HYL.out, HLN.out.1], by have := HLN.out.2.1; have := HXL.out; omega, by have := answer_len M2 (t); have h1 : M2.told.length + M2.ahead.length ≤ M.told.length + M.ahead.length := HN0.out; have := HLN.out.2.2; omega⟩, HT8, HB8⟩
      · have Z0 : (0 : Int) < (ws.length : Int) := by omega
        obtain ⟨j, hj⟩ : ∃ j, j = xs.length % ws.length := ⟨_, rfl⟩
        have hjl : j < ws.length := by rw [hj]; exact Nat.mod_lt _ (by omega)
        have hrem : (xs.length : Int) % (ws.length : Int) = (j : Int) := by rw [hj]; rfl
        have hrem2 : Int.tmod (xs.length : Int) (ws.length : Int) = (j : Int) := by rw [hj]; exact (Int.ofNat_tmod _ _).symm
        have hj0 : (0 : Int) ≤ (j : Int) := by omega
        have hj1 : (j : Int) < (ws.length : Int) := by omega
        have HJL := Aside0.mk hjl
        obtain ⟨ad, eA, _, _, _⟩ := at37 HR1.out j hjl
        subst eA
        obtain ⟨u, hu⟩ : ∃ u, u = (rd37 ws j).f2 := ⟨_, rfl⟩
        have HU := Aside0.mk hu
        clear hz hj hjl hu
        go_wp2_with (first | ((with_reducible refine gate_builtin (b := .append) (xs := #[.tmp 65, .tmp 67]) rfl ?_); at_builtin; refine Kd.R_append Kd.string (w0 := w5) (W := w5) w2.heap.size rfl (.tmp 65) (.tmp 67) 32 9 (.string ⟨#[]⟩) 16 rfl Try.underlying32 info9 rfl (by decide) (by omega) (.slice Aa xs.length ca) xs t [.string t] (fun k => SA k ∨ w5.heap.size ≤ k) (fun _ => False) rfl rfl rfl (fun _ hk => hk.elim) (fun _ hk => .inr hk) (Kd.R_mono HRA.out (fun _ hk => .inl hk)) (Below.refl _ _) HBA.out (by have := HLN.out; have := HI.out; omega) ?_; intro v6 w6 ho hb hg hat; obtain ⟨A6, n6, e6⟩ : ∃ A6 n6, v6 = Value.slice A6 (xs ++ [t]).length n6 := Kd.R_slice ho; obtain ⟨xs6, hx6⟩ : ∃ xs6, xs6 = xs ++ [t] := ⟨_, rfl⟩; rw [← hx6] at e6 ho; subst e6; have HX6 := Aside0.mk hx6; have HT6 := Aside0.mk (HAPP.out _ w6 _ ho hg); have HB6 : Aside0 (Below w.heap.size w w6) := ⟨HB5.out.trans (hb.mono HB2.out.size)⟩; clear ho hb hg hat hx6; obtain ⟨ad6, eA6, _, _, y6⟩ := at37 (Kd.C_below HR1.out HB6.out) j HJL.out; injection eA6 with eA6; subst eA6; rw [← HU.out] at y6) | ((with_reducible refine gate_builtin (b := .append) (xs := #[.tmp 83, .tmp 85]) rfl ?_); at_builtin; obtain ⟨SB, hrb, hbb, hbp⟩ := HT6.out.swap.appA; refine Kd.R_append Kd.string (w0 := w6) (W := w6) w2.heap.size rfl (.tmp 83) (.tmp 85) 32 9 (.string ⟨#[]⟩) 16 rfl Try.underlying32 info9 rfl (by decide) (by omega) (.slice Ab ys.length cb) ys (u) [.string (u)] (fun k => SB k ∨ w6.heap.size ≤ k) (fun _ => False) rfl rfl rfl (fun _ hk => hk.elim) (fun _ hk => .inr hk) (Kd.R_mono hrb (fun _ hk => .inl hk)) (Below.refl _ _) hbb (by have := HLN.out; have := HI.out; omega) ?_; intro v7 w7 ho hb hg hat; obtain ⟨A7, n7, e7⟩ : ∃ A7 n7, v7 = Value.slice A7 (ys ++ [u]).length n7 := Kd.R_slice ho; obtain ⟨ys7, hy7⟩ : ∃ ys7, ys7 = ys ++ [u] := ⟨_, rfl⟩; rw [← hy7] at e7 ho; subst e7; have HY7 := Aside0.mk hy7; have HT7 := Aside0.mk (hbp _ w7 _ ho hg).swap; have HB7 : Aside0 (Below w.heap.size w w7) := ⟨HB6.out.trans (hb.mono HB2.out.size)⟩; clear ho hb hg hat hy7 hrb hbb hbp))
        obtain ⟨S7, hm7, hgo7⟩ := HT7.out.sess
        have HM7 := Aside0.mk hm7
        have HGO7 := Aside0.mk hgo7
        clear hm7 hgo7
        refine (answer_calls S7 w2.heap.size g M2 (u) w7 HM7.out (by have h1 : M2.told.length + M2.ahead.length ≤ M.told.length + M.ahead.length := HN0.out; have := HLN.out.2.2; have := HI.out; omega)).mono ?_
        rw [(HANS.out (u)).1]
        rintro _ w8 ⟨rfl, hg8⟩
        have HT8 := Aside0.mk (HGO7.out w8 _ hg8)
        have HB8 : Aside0 (Below w.heap.size w w8) := ⟨by obtain ⟨_, _, _, _, h⟩ := hg8; exact HB7.out.trans (h.mono HB2.out.size)⟩
        have hx6l : xs6.length = xs.length + 1 := by rw [HX6.out, List.length_append]; rfl
        have HXL := Aside0.mk hx6l
        have HYL : Aside0 (ys7.length = ys.length + 1) := ⟨by rw [HY7.out, List.length_append]; rfl⟩
        clear hg8 hx6l
        go_wp2_with fail
        go_roundg (1000 - (i + 1))
        case measure => omega
        case rel => exact ⟨i + 1, (answerM M2 (u)).2, xs6, ys7, A6, A7, n6, n7, rfl, rfl, rfl, by rw [HXL.out]; go_num, by go_num, ⟨by have h1 : rk (answerM M2 (u)).2 < rk M := (HANS.out (u)).2.2.2.2; have := HI.out; omega⟩, (HANS.out (u)).2.1 |> Aside0.mk, ⟨by have h1 := (HANS.out (u)).2.2.1; rw [h1, HX6.out, List.append_assoc]; show xs ++ (t :: X) = _; have := HPD.out; rw [← this]; exact HP.out⟩, ⟨by have h1 := (HANS.out (u)).2.2.2.1; rw [h1, HY7.out, HRS.out]⟩, ⟨by rw [HXL.out, HYL.out, HLN.out.1], by have := HLN.out.2.1; have := HXL.out; omega, by have := answer_len M2 (u); have h1 : M2.told.length + M2.ahead.length ≤ M.told.length + M.ahead.length := HN0.out; have := HLN.out.2.2; omega⟩, HT8, HB8⟩
    · have hd : d = 3 := hd
      subst hd
      have HIV := Aside0.mk hiv
      have HPD := Aside0.mk hpd
      have HRS2 := Aside0.mk hrs
      have HRK := Aside0.mk hrk
      clear hpd hrs hiv hrk
      go_wp2_with fail
      go_roundg (1000 - (i + 1))
      case measure => omega
      case rel => exact ⟨i + 1, M2, xs, ys, Aa, Ab, ca, cb, rfl, rfl, rfl, rfl, by go_num, ⟨by have h1 : rk M2 < rk M := HRK.out; have := HI.out; omega⟩, HIV, ⟨by rw [HPD.out]; exact HP.out⟩, ⟨by rw [HRS2.out]; exact HRS.out⟩, ⟨HLN.out.1, by have := HLN.out.2.1; omega, by have h1 : M2.told.length + M2.ahead.length ≤ M.told.length + M.ahead.length := HN0.out; have := HLN.out.2.2; omega⟩, HT5, HB5⟩
end Go.Proofs.Ythjjblnkaikmlaa.Mx
