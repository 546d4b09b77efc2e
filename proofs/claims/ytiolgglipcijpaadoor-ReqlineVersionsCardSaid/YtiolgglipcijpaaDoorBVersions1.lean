/- Plain words on byte arrays as lists of bytes, for the pure statements of the print. Conditions: none beyond those that each theorem states. -/
import Derived.Test.YtiolgglipcijpaaDoorBVersions0
import Derived.Test.YtiolgglipcijpaaDoorWWords
import Derived.Laws.Strings
import Derived.Laws.BytesArg
set_option linter.unusedVariables false
set_option linter.unusedSimpArgs false

section
namespace Go.Proofs.YtiolgglipcijpaaDoor.P
open Go.RowKit Go.Proofs.YtiolgglipcijpaaDoorW.PrintWords Go.Proofs.YtiolgglipcijpaaDoorW.PrintLast Go.Proofs.YtiolgglipcijpaaDoorW.PrintMore
attribute [local go_sem] max2_int min2_int max_two min_two max_three min_three max_four min_four   -- for this text's walks alone
set_option linter.unusedVariables false
set_option linter.unusedSimpArgs false

set_option maxHeartbeats 8000000 in
set_option maxRecDepth 100000 in
theorem doorkeeperref10_Parse.calls (k : Nat) (a0 : ByteArray) (r1 : ByteArray) (r2 : ByteArray) (r3 : Int) (r4 : Int) (r5 : Int) (w : World) (h : doorkeeperref10_Parse.f k a0 = some (r1, r2, r3, r4, r5)) :
    Calls Tryd.prog 13 #[.string a0] w fun e w' => e = .returned (.tuple #[.agg #[.string r1, .string r2, .int .i64 r3], .int .i64 r4, .int .i64 r5]) ∧ Below w.heap.size w w' := by
  have hu29 := Tryd.underlying29
  have HB := Aside0.mk (Below.refl w.heap.size w)
  have H : (doorkeeperref10_Parse.l0 k a0 ([] : List Int) 0) = some (r1, r2, r3, r4, r5) := h
  clear h
  have H' := Aside0.mk H
  clear H
  go_enter Tryd.func13, Tryd.ntmps13
  go_wp2_with (first | ((with_reducible refine gate_dst (N := 2) rfl ?_); refine box_event ?hg (N := 2) ?hd (cs := #[.string (⟨#[]⟩ : ByteArray), .string (⟨#[]⟩ : ByteArray), .int .i64 0]) (t := 29) ?hr ?_; (case hd => rfl); (case hg => rfl); (case hr => first | (go_simp; done) | (go_simp; rfl)); intro gb134 hg w2 hbox hb; have n0_ := Aside0.mk (below_step (by repeat (first | (with_reducible first | exact HB.out | apply below_alloc | apply pw_below_drewN | apply below_drew1) | exact HB.out)) hb); have n1_ := Aside0.mk (hbox); have n2_ := Aside0.mk ((by rw [hg]; exact (below_size (by repeat (first | (with_reducible first | exact HB.out | apply below_alloc | apply pw_below_drewN | apply below_drew1) | exact HB.out))) : w.heap.size ≤ gb134)); have n3_ := Aside0.mk ((by rw [hg]; exact (below_size (by repeat (first | (with_reducible first | exact HB.out | apply below_alloc | apply pw_below_drewN | apply below_drew1) | exact HB.out))) : w.heap.size ≤ gb134)); clear HB; have HB := n0_; have BK134 := n1_; have GW134 := n2_; have GE134 := n3_; clear n0_ n1_ n2_ n3_; clear hb hbox hg))
  go_loopg [5, 6] k (fun kq v5 v6 w' => ∃ (x5_1 : List Int) (x6_1 : Int), v6 = .int .i64 x6_1 ∧ Aside0 (doorkeeperref10_Parse.l0 kq a0 x5_1 x6_1 = some (r1, r2, r3, r4, r5)) ∧ Aside0 (kq ≤ k) ∧ Aside0 (Kd.R (Kd.int .i64) 3 w' w.heap.size (fun _ => True) v5 x5_1) ∧ Aside0 (w'.heap[gb134]? = some (.cells #[.string (⟨#[]⟩ : ByteArray), .string (⟨#[]⟩ : ByteArray), .int .i64 0] 29 (0, 0))) ∧ Aside0 (Below w.heap.size w w'))
  case atStart => exact ⟨(([] : List Int)), (0), (by first | rfl | (simp; done) | (simp [*]; done)), H', ⟨Nat.le_refl _⟩, ⟨by first | exact Kd.R_nil _ _ _ _ _ | exact Kd.N_nil _ _ _ _ _ | exact Kd.V_nil _ _ _ _ _ | exact Kd.Q_nil _ _ _ _ _ | exact Kd.S_nil _ _ _ _ _⟩, ⟨by (with_reducible repeat (first | refine blk_drewN ?_ _ | refine blk_drew ?_ | refine blk_alloc ?_ _)); exact BK134.out⟩, ⟨by repeat (first | (with_reducible first | exact HB.out | apply below_alloc | apply pw_below_drewN | apply below_drew1 | refine below_set ?_ GE134.out) | exact HB.out)⟩⟩
  case round =>
    clear H'
    try clear c1
    try clear p2
    obtain ⟨x5_1, x6_1, rfl, HA, HK1, HO_5, BK134, HB⟩ := hrel
    cases gk with
    | zero => exact absurd HA.out (by simp [doorkeeperref10_Parse.l0])
    | succ k1 =>
      have H := HA.out
      clear HA
      simp only [doorkeeperref10_Parse.l0] at H
      by_cases c3 : x6_1 < (a0.size : Int)
      · rw [if_pos c3] at H
        have c3b0 : decide (x6_1 < (a0.size : Int)) = true := decide_eq_true c3
        clear c3
        by_cases c4 : 0 ≤ x6_1
        · rw [if_pos c4] at H
          have c4b0 : decide (0 ≤ x6_1) = true := decide_eq_true c4
          clear c4
          by_cases c6 : (bt a0 x6_1) = 32
          · rw [if_pos c6] at H
            have c6b0 : ((bt a0 x6_1) == 32) = true := beq_iff_eq.mpr c6
            have c6b1 : ((bt a0 x6_1) != 32) = false := bne_eq_false_iff_eq.mpr c6
            clear c6
            by_cases c7 : x5_1.length < 17592186044416
            · rw [if_pos c7] at H
              have LMc7 := Aside0.mk c7
              clear c7
              obtain ⟨y135, hy135⟩ : ∃ y_ : List Int, y_ = (x5_1 ++ [x6_1]) := ⟨_, rfl⟩
              replace H : (doorkeeperref10_Parse.l0 k1 a0 y135 (wrap64 (x6_1 + 1))) = some (r1, r2, r3, r4, r5) := by first | (rw [hy135]; with_reducible exact H) | (have H2_ := (Option.bind_some _ _).symm.trans H; rw [hy135]; with_reducible exact H2_) | (have H2_ := (Option.bind_some _ _).symm.trans H; with_reducible exact H2_) | with_reducible exact H | (rw [hy135]; exact H) | exact H
              have Ny135 := Aside0.mk hy135
              clear hy135
              have H' := Aside0.mk H
              clear H
              have p5 : 0 ≤ (x6_1 : Int) := of_decide_eq_true (by first | (with_reducible assumption) | assumption)
              have q5 : x6_1 < (a0.size : Int) := of_decide_eq_true (by first | (with_reducible assumption) | assumption)
              have hx5 := bt_at a0 x6_1
              replace p5 := eq_true p5
              replace q5 := eq_true q5
              go_wp2_with (first | ((with_reducible refine gate_builtin (b := .append) (xs := #[.tmp 21, .tmp 23]) rfl ?_); at_builtin; refine Kd.R_append (Kd.int .i64) (w0 := w) w.heap.size rfl (.tmp 21) (.tmp 23) 64 3 (.int .i64 0) 8 rfl Tryd.underlying64 info3 rfl (by decide) (by omega) u5 x5_1 x6_1 [.int .i64 x6_1] (fun _ => True) (fun _ => False) rfl rfl ?aP (fun _ hk => hk.elim) ?aF ?aO ?aB ?aS ?aL ?_; (case aP => exact rfl); (case aB => exact (by repeat (first | (with_reducible first | exact HB.out | apply below_alloc | apply pw_below_drewN | apply below_drew1 | refine below_set ?_ GE134.out) | exact HB.out))); (case aF => exact (fun _ _ => trivial)); (case aO => exact (by (with_reducible repeat (first | apply Kd.R_alloc | apply Kd.R_drewN | apply Kd.R_drew)); exact HO_5.out)); (case aS => exact (below_size (by repeat (first | (with_reducible first | exact HB.out | apply below_alloc | apply pw_below_drewN | apply below_drew1 | refine below_set ?_ GE134.out) | exact HB.out)))); (case aL => have := LMc7.out; omega); intro v136 w8 ho hb hg hat; rw [← Ny135.out] at ho; have n0_ := Aside0.mk (blk_grown (g := gb134) (o := .cells #[.string (⟨#[]⟩ : ByteArray), .string (⟨#[]⟩ : ByteArray), .int .i64 0] 29 (0, 0)) (by (with_reducible repeat (first | refine blk_drewN ?_ _ | refine blk_drew ?_ | refine blk_alloc ?_ _)); exact BK134.out) hg (Kd.R_ne HO_5.out BK134.out (by decide))); have n1_ := Aside0.mk (hb); have n2_ := Aside0.mk (ho); clear BK134; clear HB; clear HO_5; have BK134 := n0_; have HB := n1_; have HO137 := n2_; clear n0_ n1_ n2_; clear ho hb hg hat))
              go_roundg k1
              case measure => have := HK1.out; omega
              case rel => exact ⟨(y135), (wrap64 (x6_1 + 1)), (by first | rfl | (simp; done) | (simp [*]; done)), H', ⟨by have := HK1.out; omega⟩, ⟨by (with_reducible repeat (first | apply Kd.R_alloc | apply Kd.R_drewN | apply Kd.R_drew)); exact HO137.out⟩, ⟨by (with_reducible repeat (first | refine blk_drewN ?_ _ | refine blk_drew ?_ | refine blk_alloc ?_ _)); exact BK134.out⟩, ⟨by repeat (first | (with_reducible first | exact HB.out | apply below_alloc | apply pw_below_drewN | apply below_drew1 | refine below_set ?_ GE134.out) | exact HB.out)⟩⟩
            · rw [if_neg c7] at H
              exact absurd H (by simp)
          · rw [if_neg c6] at H
            have c6b0 : ((bt a0 x6_1) == 32) = false := beq_eq_false_iff_ne.mpr c6
            have c6b1 : ((bt a0 x6_1) != 32) = true := bne_iff_ne.mpr c6
            have H' := Aside0.mk H
            clear H
            have p5 : 0 ≤ (x6_1 : Int) := of_decide_eq_true (by first | (with_reducible assumption) | assumption)
            have q5 : x6_1 < (a0.size : Int) := of_decide_eq_true (by first | (with_reducible assumption) | assumption)
            have hx5 := bt_at a0 x6_1
            replace p5 := eq_true p5
            replace q5 := eq_true q5
            go_wp2
            go_roundg k1
            case measure => have := HK1.out; omega
            case rel => exact ⟨(x5_1), (wrap64 (x6_1 + 1)), (by first | rfl | (simp; done) | (simp [*]; done)), H', ⟨by have := HK1.out; omega⟩, ⟨by (with_reducible repeat (first | apply Kd.R_alloc | apply Kd.R_drewN | apply Kd.R_drew)); exact HO_5.out⟩, ⟨by (with_reducible repeat (first | refine blk_drewN ?_ _ | refine blk_drew ?_ | refine blk_alloc ?_ _)); exact BK134.out⟩, ⟨by repeat (first | (with_reducible first | exact HB.out | apply below_alloc | apply pw_below_drewN | apply below_drew1 | refine below_set ?_ GE134.out) | exact HB.out)⟩⟩
        · rw [if_neg c4] at H
          exact absurd H (by simp)
      · rw [if_neg c3] at H
        have c3b0 : decide (x6_1 < (a0.size : Int)) = false := decide_eq_false c3
        clear c3
        have HC9 := Aside0.mk H
        clear H
        go_upto_region 7 with (fail)
        go_cut [36] (fun v36 wc => ∃ (kq : Nat) (x36_8 : Bool), v36 = .bool x36_8 ∧ Aside0 (doorkeeperref10_Parse.j1 kq a0 x5_1 x36_8 = some (r1, r2, r3, r4, r5)) ∧ Aside0 (kq ≤ k1) ∧ Aside0 (Kd.R (Kd.int .i64) 3 wc w.heap.size (fun _ => True) u5 x5_1) ∧ Aside0 (wc.heap[gb134]? = some (.cells #[.string (⟨#[]⟩ : ByteArray), .string (⟨#[]⟩ : ByteArray), .int .i64 0] 29 (0, 0))) ∧ Aside0 (Below w.heap.size w wc))
        case first =>
          have H := HC9.out
          clear HC9
          by_cases c10 : (x5_1.length : Int) = 2
          · rw [if_pos c10] at H
            have c10b0 : ((x5_1.length : Int) == 2) = true := beq_iff_eq.mpr c10
            have c10b1 : ((x5_1.length : Int) != 2) = false := bne_eq_false_iff_eq.mpr c10
            clear c10
            (first | rw [c10b0] | (simp only [i64_w, i32_w]; rw [c10b0]) | skip)
            by_cases c11 : 0 < (x5_1.length : Int)
            · rw [if_pos c11] at H
              have c11b0 : decide (0 < (x5_1.length : Int)) = true := decide_eq_true c11
              have c11b1 : decide (0 < x5_1.length) = true := decide_eq_true (by omega)
              clear c11
              by_cases c12 : 0 ≤ (rd x5_1 0)
              · rw [if_pos c12] at H
                have c12b0 := eq_true c12
                have c12b1 : decide (0 ≤ (rd x5_1 0)) = true := decide_eq_true c12
                clear c12
                by_cases c13 : (rd x5_1 0) ≤ (a0.size : Int)
                · rw [if_pos c13] at H
                  have c13b0 := eq_true c13
                  have c13b1 : decide ((rd x5_1 0) ≤ (a0.size : Int)) = true := decide_eq_true c13
                  clear c13
                  replace H := Option.bind_eq_some_iff.mp H
                  obtain ⟨t139, A140, H⟩ := H
                  replace H : (doorkeeperref10_Parse.j1 k1 a0 x5_1 (!t139)) = some (r1, r2, r3, r4, r5) := H
                  have A14 := Aside0.mk A140
                  clear A140
                  have H' := Aside0.mk H
                  clear H
                  obtain ⟨Ao15, co15, eo15⟩ := Kd.R_slice HO_5.out
                  subst eo15
                  have p138 : 0 ≤ (0 : Int) := (by omega)
                  have q138 : 0 < (x5_1.length : Int) := of_decide_eq_true (by first | (with_reducible assumption) | assumption)
                  obtain ⟨ad138, e138, hx138_0⟩ := Kd.at_int (Kd.R_reads' HO_5.out).2.2 0 p138 q138
                  cases e138
                  have qi138 : (0 < x5_1.length) = True := eq_true (by omega)
                  (try rw [show ((0 : Int)).toNat = 0 from rfl] at hx138_0)
                  (try rw [Addr.add_zero'] at hx138_0)
                  replace p138 := eq_true p138
                  replace q138 := eq_true q138
                  go_wp2_with (first | (go_at_call 32; (with_reducible refine (doorkeeperref02_IsToken.calls k1 (a0.extract 0 ((rd x5_1 0) : Int).toNat) t139 _ A14.out).mono ?_); rintro e w' ⟨rfl, ⟨nd, rfl⟩⟩))
                  go_meet
                  case rel => exact ⟨_, (!t139), (by first | rfl | (simp; done) | (simp [*]; done)), H', ⟨by have := HK1.out; first | omega | exact Nat.le_refl _⟩, ⟨by (with_reducible repeat (first | apply Kd.R_alloc | apply Kd.R_drewN | apply Kd.R_drew)); exact HO_5.out⟩, ⟨by (with_reducible repeat (first | refine blk_drewN ?_ _ | refine blk_drew ?_ | refine blk_alloc ?_ _)); exact BK134.out⟩, ⟨by repeat (first | (with_reducible first | exact HB.out | apply below_alloc | apply pw_below_drewN | apply below_drew1 | refine below_set ?_ GE134.out) | exact HB.out)⟩⟩
                · rw [if_neg c13] at H
                  exact absurd H (by simp)
              · rw [if_neg c12] at H
                exact absurd H (by simp)
            · rw [if_neg c11] at H
              exact absurd H (by simp)
          · rw [if_neg c10] at H
            have c10b0 : ((x5_1.length : Int) == 2) = false := beq_eq_false_iff_ne.mpr c10
            have c10b1 : ((x5_1.length : Int) != 2) = true := bne_iff_ne.mpr c10
            (first | rw [c10b0] | (simp only [i64_w, i32_w]; rw [c10b0]) | skip)
            have H' := Aside0.mk H
            clear H
            obtain ⟨Ao16, co16, eo16⟩ := Kd.R_slice HO_5.out
            subst eo16
            go_wp2
            go_meet
            case rel => exact ⟨_, (true), (by first | rfl | (simp; done) | (simp [*]; done)), H', ⟨by have := HK1.out; first | omega | exact Nat.le_refl _⟩, ⟨by (with_reducible repeat (first | apply Kd.R_alloc | apply Kd.R_drewN | apply Kd.R_drew)); exact HO_5.out⟩, ⟨by (with_reducible repeat (first | refine blk_drewN ?_ _ | refine blk_drew ?_ | refine blk_alloc ?_ _)); exact BK134.out⟩, ⟨by repeat (first | (with_reducible first | exact HB.out | apply below_alloc | apply pw_below_drewN | apply below_drew1 | refine below_set ?_ GE134.out) | exact HB.out)⟩⟩
        case rest =>
          clear HC9
          try clear c1
          try clear p1
          try clear q1
          try clear hx1
          try clear qi1
          try clear p2
          try clear c3
          try clear c3b0
          try clear c4
          try clear c4b0
          try clear p5
          try clear q5
          try clear hx5
          try clear c6
          try clear c6b0
          try clear c6b1
          try clear p6
          try clear c7
          try clear c10
          try clear c10b0
          try clear c10b1
          try clear c11
          try clear c11b0
          try clear c11b1
          try clear c12
          try clear c12b0
          try clear c12b1
          try clear c13
          try clear c13b0
          try clear c13b1
          try clear p13
          try clear q13
          try clear hx13
          try clear qi13
          try clear hx138_0
          try clear p138
          try clear p2
          try clear p5
          try clear q138
          try clear q5
          obtain ⟨kq, x36_8, rfl, HA, HJ8, HO_5, BK134, HB⟩ := hcut
          cases kq with
          | zero => exact absurd HA.out (by simp [doorkeeperref10_Parse.j1])
          | succ kj8 =>
            have H := HA.out
            clear HA
            simp only [doorkeeperref10_Parse.j1] at H
            by_cases c17 : x36_8 = true
            · subst c17
              have H1 : (some ((⟨#[]⟩ : ByteArray), (⟨#[]⟩ : ByteArray), 0, 400, 0)) = some (r1, r2, r3, r4, r5) := by rw [if_pos rfl] at H; exact H
              clear H
              have H := H1
              clear H1
              simp only [Option.some.injEq, Prod.mk.injEq] at H
              obtain ⟨rfl, rfl, rfl, rfl, rfl⟩ := H
              have hcz18_0 : wc.cell? ⟨gb134, 0, none⟩ = some (.string (⟨#[]⟩ : ByteArray)) := (blk_cell BK134.out 0).trans rfl
              have hcz18_1 : wc.cell? ⟨gb134, 1, none⟩ = some (.string (⟨#[]⟩ : ByteArray)) := (blk_cell BK134.out 1).trans rfl
              have hcz18_2 : wc.cell? ⟨gb134, 2, none⟩ = some (.int .i64 0) := (blk_cell BK134.out 2).trans rfl
              have hfz18_0 := blk_frozen BK134.out 0
              have hfz18_1 := blk_frozen BK134.out 1
              have hfz18_2 := blk_frozen BK134.out 2
              go_wp2
              refine bodyPost_ret (results_ctt rfl _ _ gb134 29 #[.string (⟨#[]⟩ : ByteArray), .string (⟨#[]⟩ : ByteArray), .int .i64 0] (0, 0) _ rfl (by (with_reducible repeat (first | refine blk_drewN ?_ _ | refine blk_drew ?_ | refine blk_alloc ?_ _)); refine blk_put (cs := #[.string (⟨#[]⟩ : ByteArray), .string (⟨#[]⟩ : ByteArray), .int .i64 0]) ?_ 2 _ rfl; (with_reducible repeat (first | refine blk_drewN ?_ _ | refine blk_drew ?_ | refine blk_alloc ?_ _)); refine blk_put (cs := #[.string (⟨#[]⟩ : ByteArray), .string (⟨#[]⟩ : ByteArray), .int .i64 0]) ?_ 1 _ rfl; (with_reducible repeat (first | refine blk_drewN ?_ _ | refine blk_drew ?_ | refine blk_alloc ?_ _)); refine blk_put (cs := #[.string (⟨#[]⟩ : ByteArray), .string (⟨#[]⟩ : ByteArray), .int .i64 0]) ?_ 0 _ rfl; (with_reducible repeat (first | refine blk_drewN ?_ _ | refine blk_drew ?_ | refine blk_alloc ?_ _)); exact BK134.out) Tryd.underlying29 rfl (by kernel_rfl)) rfl ?_
              exact ⟨by first | rfl | (simp [errW_none, errW_some] <;> rfl) | (simp [*, errW_none, errW_some] <;> rfl), by repeat (first | (with_reducible first | exact HB.out | apply below_alloc | apply pw_below_drewN | apply below_drew1 | refine below_set ?_ GE134.out) | exact HB.out)⟩
            · replace c17 := Bool.eq_false_iff.mpr c17
              subst c17
              have H1 : (if 0 < (x5_1.length : Int) then (if 1 < (x5_1.length : Int) then (if 0 ≤ (wrap64 ((rd x5_1 0) + 1)) then (if (wrap64 ((rd x5_1 0) + 1)) ≤ (rd x5_1 1) then (if (rd x5_1 1) ≤ (a0.size : Int) then (if (a0.extract ((wrap64 ((rd x5_1 0) + 1)) : Int).toNat ((rd x5_1 1) : Int).toNat).toList = ([] : List UInt8) then (some ((⟨#[]⟩ : ByteArray), (⟨#[]⟩ : ByteArray), 0, 400, wrap64 ((rd x5_1 0) + 1))) else (doorkeeperref10_Parse.l1 kj8 a0 x5_1 (a0.extract ((wrap64 ((rd x5_1 0) + 1)) : Int).toNat ((rd x5_1 1) : Int).toNat) 0)) else (none)) else (none)) else (none)) else (none)) else (none)) = some (r1, r2, r3, r4, r5) := by rw [if_neg (show ¬ (false = true) by decide)] at H; exact H
              clear H
              have H := H1
              clear H1
              by_cases c19 : 0 < (x5_1.length : Int)
              · rw [if_pos c19] at H
                have c19b0 : decide (0 < (x5_1.length : Int)) = true := decide_eq_true c19
                have c19b1 : decide (0 < x5_1.length) = true := decide_eq_true (by omega)
                clear c19
                by_cases c20 : 1 < (x5_1.length : Int)
                · rw [if_pos c20] at H
                  have c20b0 : decide (1 < (x5_1.length : Int)) = true := decide_eq_true c20
                  have c20b1 : decide (1 < x5_1.length) = true := decide_eq_true (by omega)
                  clear c20
                  obtain ⟨ji21, hji21⟩ : ∃ j_ : Int, (wrap64 ((rd x5_1 0) + 1)) = j_ := ⟨_, rfl⟩
                  replace H : (if 0 ≤ (ji21) then (if (ji21) ≤ (rd x5_1 1) then (if (rd x5_1 1) ≤ (a0.size : Int) then (if (a0.extract ((ji21) : Int).toNat ((rd x5_1 1) : Int).toNat).toList = ([] : List UInt8) then (some ((⟨#[]⟩ : ByteArray), (⟨#[]⟩ : ByteArray), 0, 400, ji21)) else (doorkeeperref10_Parse.l1 kj8 a0 x5_1 (a0.extract ((ji21) : Int).toNat ((rd x5_1 1) : Int).toNat) 0)) else (none)) else (none)) else (none)) = some (r1, r2, r3, r4, r5) := by first | (rw [hji21] at H; exact H) | (simp only [hji21] at H ⊢; exact H)
                  have hji21w : (IntKind.i64.wrap ((rd x5_1 0) + 1)) = ji21 := (i64_w _).trans hji21
                  by_cases c22 : 0 ≤ (ji21)
                  · rw [if_pos c22] at H
                    have c22b0 := eq_true c22
                    have c22b1 : decide (0 ≤ (ji21)) = true := decide_eq_true c22
                    clear c22
                    by_cases c23 : (ji21) ≤ (rd x5_1 1)
                    · rw [if_pos c23] at H
                      have c23b0 := eq_true c23
                      have c23b1 : decide ((ji21) ≤ (rd x5_1 1)) = true := decide_eq_true c23
                      clear c23
                      by_cases c24 : (rd x5_1 1) ≤ (a0.size : Int)
                      · rw [if_pos c24] at H
                        have c24b0 := eq_true c24
                        have c24b1 : decide ((rd x5_1 1) ≤ (a0.size : Int)) = true := decide_eq_true c24
                        clear c24
                        by_cases c25 : (a0.extract ((ji21) : Int).toNat ((rd x5_1 1) : Int).toNat).toList = ([] : List UInt8)
                        · rw [if_pos c25] at H
                          have c25b0 : ((a0.extract ((ji21) : Int).toNat ((rd x5_1 1) : Int).toNat).toList == ([] : List UInt8)) = true := beq_iff_eq.mpr c25
                          have c25b1 : ((a0.extract ((ji21) : Int).toNat ((rd x5_1 1) : Int).toNat).toList != ([] : List UInt8)) = false := bne_eq_false_iff_eq.mpr c25
                          clear c25
                          simp only [Option.some.injEq, Prod.mk.injEq] at H
                          obtain ⟨rfl, rfl, rfl, rfl, rfl⟩ := H
                          try go_wp2
                          have n0_ := Aside0.mk (Kd.R_drew HO_5.out)
                          have n1_ := Aside0.mk (blk_drew BK134.out)
                          have n2_ := Aside0.mk (below_drew1 HB.out)
                          clear HO_5
                          clear BK134
                          clear HB
                          have HO_5 := n0_
                          have BK134 := n1_
                          have HB := n2_
                          clear n0_ n1_ n2_
                          obtain ⟨Ao27, co27, eo27⟩ := Kd.R_slice HO_5.out
                          (first | subst eo27 | (injection eo27 with f1_ f2_ f3_; have f4_ := f1_.symm; have f5_ := f3_.symm; clear f1_ f2_ f3_; subst f4_; subst f5_))
                          have p140 : 0 ≤ (0 : Int) := (by omega)
                          have q140 : 0 < (x5_1.length : Int) := of_decide_eq_true (by first | (with_reducible assumption) | assumption)
                          obtain ⟨ad140, e140, hx140_0⟩ := Kd.at_int (Kd.R_reads' HO_5.out).2.2 0 p140 q140
                          cases e140
                          have qi140 : (0 < x5_1.length) = True := eq_true (by omega)
                          (try rw [show ((0 : Int)).toNat = 0 from rfl] at hx140_0)
                          (try rw [Addr.add_zero'] at hx140_0)
                          replace p140 := eq_true p140
                          replace q140 := eq_true q140
                          have p141 : 0 ≤ (1 : Int) := (by omega)
                          have q141 : 1 < (x5_1.length : Int) := of_decide_eq_true (by first | (with_reducible assumption) | assumption)
                          obtain ⟨ad141, e141, hx141_0⟩ := Kd.at_int (Kd.R_reads' HO_5.out).2.2 1 p141 q141
                          obtain rfl : ad140 = ad141 := (by injection e141)
                          (try simp only [show (1 : Int).toNat = 1 from rfl, Nat.reduceMul, Nat.reduceEqDiff, Go.Addr.add, ↓reduceIte] at hx141_0)
                          have qi141 : (1 < x5_1.length) = True := eq_true (by omega)
                          (try rw [show ((1 : Int)).toNat = 1 from rfl] at hx141_0)
                          replace p141 := eq_true p141
                          replace q141 := eq_true q141
                          refine start_ (n := 10) (S := fun w' => w'.cell? ad140 = some (.int .i64 (rd x5_1 0)) ∧ w'.cell? ⟨ad140.block, ad140.off + 1, none⟩ = some (.int .i64 (rd x5_1 1))) (ds := []) #[false, false, false, false, false, false, false, false, false, false] (by kernel_rfl) rfl rfl ⟨hx140_0, hx141_0⟩ (fun hHeld => ?_); refine with_tabW doorkeeperref10_Parse.tab9 doorkeeperref10_Parse.bits9 (fun HT_ HW_ => ?_)
                          generalize wc.drew = w26 at HO_5 BK134 HB hx140_0 hx141_0 hHeld ⊢
                          refine pure_ (i := 0) (N := some 38) (v := ?_) (a' := ?_) #[true, false, false, false, false, false, false, false, false, false] rfl rfl (any_of HT_.out (by kernel_rfl)) (fun _ _ _ h => h) (Or.inl ⟨by rfl, ?_⟩) ?_ ?_
                          rotate_left
                          · intro w'
                            go_simp
                            with_reducible rfl
                          rotate_left
                          · simp only [Act.put, List.setIfInBounds_toArray, List.set_cons_zero, List.set_cons_succ, i64_w, i32_w]
                            rfl
                          refine pure_ (i := 1) (N := some 39) (v := ?_) (a' := ?_) #[true, true, false, false, false, false, false, false, false, false] rfl rfl (any_of HT_.out (by kernel_rfl)) (fun _ _ _ h => h) (Or.inl ⟨by rfl, ?_⟩) ?_ ?_
                          rotate_left
                          · intro w'
                            go_simp
                            with_reducible rfl
                          rotate_left
                          · simp only [Act.put, List.setIfInBounds_toArray, List.set_cons_zero, List.set_cons_succ, i64_w, i32_w]
                            rfl
                          refine pure_ (i := 2) (N := some 40) (v := ?_) (a' := ?_) #[true, true, true, false, false, false, false, false, false, false] rfl rfl (any_of HT_.out (by kernel_rfl)) (fun _ _ _ h => h) (Or.inl ⟨by rfl, ?_⟩) ?_ ?_
                          rotate_left
                          · intro w'
                            go_simp
                            with_reducible rfl
                          rotate_left
                          · simp only [Act.put, List.setIfInBounds_toArray, List.set_cons_zero, List.set_cons_succ, i64_w, i32_w]
                            rfl
                          refine pure_ (i := 5) (N := some 43) (v := ?_) (a' := ?_) #[true, true, true, false, false, true, false, false, false, false] rfl rfl (any_of HT_.out (by kernel_rfl)) (fun _ _ _ h => h) (Or.inl ⟨by rfl, ?_⟩) ?_ ?_
                          rotate_left
                          · intro w'
                            go_simp
                            with_reducible rfl
                          rotate_left
                          · simp only [Act.put, List.setIfInBounds_toArray, List.set_cons_zero, List.set_cons_succ, i64_w, i32_w]
                            rfl
                          refine pure_ (i := 6) (N := some 44) (v := ?_) (a' := ?_) #[true, true, true, false, false, true, true, false, false, false] rfl rfl (any_of HT_.out (by kernel_rfl)) (fun _ _ _ h => h) (Or.inl ⟨by rfl, ?_⟩) ?_ ?_
                          rotate_left
                          · intro w'
                            go_simp
                            with_reducible rfl
                          rotate_left
                          · simp only [Act.put, List.setIfInBounds_toArray, List.set_cons_zero, List.set_cons_succ, i64_w, i32_w]
                            rfl
                          refine take_ (i := 3) (N := some 41) (v := ?_) (a' := ?_) #[true, true, true, true, false, true, true, false, false, false] rfl rfl (take_ofW HT_.out HW_.out (by kernel_rfl)) (fun _ _ _ h => h) (Or.inl ⟨by rfl, ?_⟩) hHeld ?_ ?_
                          rotate_left
                          · rintro w' ⟨s0, s1⟩
                            go_simp
                            with_reducible rfl
                          rotate_left
                          · simp only [Act.put, List.setIfInBounds_toArray, List.set_cons_zero, List.set_cons_succ, i64_w, i32_w]
                            rfl
                          refine pure_ (i := 4) (N := some 42) (v := ?_) (a' := ?_) #[true, true, true, true, true, true, true, false, false, false] rfl rfl (any_of HT_.out (by kernel_rfl)) (fun _ _ _ h => h) (Or.inl ⟨by rfl, ?_⟩) ?_ ?_
                          rotate_left
                          · intro w'
                            go_simp
                            with_reducible rfl
                          rotate_left
                          · simp only [Act.put, List.setIfInBounds_toArray, List.set_cons_zero, List.set_cons_succ, i64_w, i32_w]
                            rfl
                          refine take_ (i := 7) (N := some 45) (v := ?_) (a' := ?_) #[true, true, true, true, true, true, true, true, false, false] rfl rfl (take_ofW HT_.out HW_.out (by kernel_rfl)) (fun _ _ _ h => h) (Or.inl ⟨by rfl, ?_⟩) hHeld ?_ ?_
                          rotate_left
                          · rintro w' ⟨s0, s1⟩
                            go_simp
                            with_reducible rfl
                          rotate_left
                          · simp only [Act.put, List.setIfInBounds_toArray, List.set_cons_zero, List.set_cons_succ, i64_w, i32_w]
                            rfl
                          refine pure_ (i := 8) (N := some 46) (v := ?_) (a' := ?_) #[true, true, true, true, true, true, true, true, true, false] rfl rfl (any_of HT_.out (by kernel_rfl)) (fun _ _ _ h => h) (Or.inl ⟨by rfl, ?_⟩) ?_ ?_
                          rotate_left
                          · intro w'
                            go_simp
                            with_reducible rfl
                          rotate_left
                          · simp only [Act.put, List.setIfInBounds_toArray, List.set_cons_zero, List.set_cons_succ, i64_w, i32_w]
                            rfl
                          refine pure_ (i := 9) (N := some 7) (v := ?_) (a' := ?_) #[true, true, true, true, true, true, true, true, true, true] rfl rfl (any_of HT_.out (by kernel_rfl)) (fun _ _ _ h => h) (Or.inl ⟨by rfl, ?_⟩) ?_ ?_
                          rotate_left
                          · intro w'
                            go_simp
                            with_reducible rfl
                          rotate_left
                          · simp only [Act.put, List.setIfInBounds_toArray, List.set_cons_zero, List.set_cons_succ, i64_w, i32_w]
                            rfl
                          refine done_ (done_of HT_.out (by kernel_rfl)) ?_
                          try go_wp2
                          have n0_ := Aside0.mk (Kd.R_drew HO_5.out)
                          have n1_ := Aside0.mk (blk_drew BK134.out)
                          have n2_ := Aside0.mk (below_drew1 HB.out)
                          clear HO_5
                          clear BK134
                          clear HB
                          have HO_5 := n0_
                          have BK134 := n1_
                          have HB := n2_
                          clear n0_ n1_ n2_
                          have p142 : 0 ≤ (0 : Int) := (by omega)
                          have q142 : 0 < (x5_1.length : Int) := of_decide_eq_true (by first | (with_reducible assumption) | assumption)
                          obtain ⟨ad142, e142, hx142_0⟩ := Kd.at_int (Kd.R_reads' HO_5.out).2.2 0 p142 q142
                          obtain rfl : ad140 = ad142 := (by injection e142)
                          have qi142 : (0 < x5_1.length) = True := eq_true (by omega)
                          (try rw [show ((0 : Int)).toNat = 0 from rfl] at hx142_0)
                          (try rw [Addr.add_zero'] at hx142_0)
                          replace p142 := eq_true p142
                          replace q142 := eq_true q142
                          refine start_ (n := 8) (S := fun w' => w'.cell? ad140 = some (.int .i64 (rd x5_1 0))) (ds := []) #[false, false, false, false, false, false, false, false] (by kernel_rfl) rfl rfl (hx142_0) (fun hHeld => ?_); refine with_tabW doorkeeperref10_Parse.tab11 doorkeeperref10_Parse.bits11 (fun HT_ HW_ => ?_)
                          generalize w26.drew = w28 at HO_5 BK134 HB hx142_0 hHeld ⊢
                          refine pure_ (i := 0) (N := some 49) (v := ?_) (a' := ?_) #[true, false, false, false, false, false, false, false] rfl rfl (any_of HT_.out (by kernel_rfl)) (fun _ _ _ h => h) (Or.inl ⟨by rfl, ?_⟩) ?_ ?_
                          rotate_left
                          · intro w'
                            go_simp
                            with_reducible rfl
                          rotate_left
                          · simp only [Act.put, List.setIfInBounds_toArray, List.set_cons_zero, List.set_cons_succ, i64_w, i32_w]
                            rfl
                          refine pure_ (i := 1) (N := some 50) (v := ?_) (a' := ?_) #[true, true, false, false, false, false, false, false] rfl rfl (any_of HT_.out (by kernel_rfl)) (fun _ _ _ h => h) (Or.inl ⟨by rfl, ?_⟩) ?_ ?_
                          rotate_left
                          · intro w'
                            go_simp
                            with_reducible rfl
                          rotate_left
                          · simp only [Act.put, List.setIfInBounds_toArray, List.set_cons_zero, List.set_cons_succ, i64_w, i32_w]
                            rfl
                          refine pure_ (i := 2) (N := some 51) (v := ?_) (a' := ?_) #[true, true, true, false, false, false, false, false] rfl rfl (any_of HT_.out (by kernel_rfl)) (fun _ _ _ h => h) (Or.inl ⟨by rfl, ?_⟩) ?_ ?_
                          rotate_left
                          · intro w'
                            go_simp
                            with_reducible rfl
                          rotate_left
                          · simp only [Act.put, List.setIfInBounds_toArray, List.set_cons_zero, List.set_cons_succ, i64_w, i32_w]
                            rfl
                          refine take_ (i := 3) (N := some 52) (v := ?_) (a' := ?_) #[true, true, true, true, false, false, false, false] rfl rfl (take_ofW HT_.out HW_.out (by kernel_rfl)) (fun _ _ _ h => h) (Or.inl ⟨by rfl, ?_⟩) hHeld ?_ ?_
                          rotate_left
                          · intro w' s0
                            go_simp
                            with_reducible rfl
                          rotate_left
                          · simp only [Act.put, List.setIfInBounds_toArray, List.set_cons_zero, List.set_cons_succ, i64_w, i32_w]
                            rfl
                          refine pure_ (i := 4) (N := some 53) (v := ?_) (a' := ?_) #[true, true, true, true, true, false, false, false] rfl rfl (any_of HT_.out (by kernel_rfl)) (fun _ _ _ h => h) (Or.inl ⟨by rfl, ?_⟩) ?_ ?_
                          rotate_left
                          · intro w'
                            go_simp
                            with_reducible rfl
                          rotate_left
                          · simp only [Act.put, List.setIfInBounds_toArray, List.set_cons_zero, List.set_cons_succ, i64_w, i32_w]
                            rfl
                          refine one_ (i := 5) (N := none) #[true, true, true, true, true, true, false, false] rfl rfl (one_of HT_.out (by kernel_rfl)) (by decide) (fun K hK => ?_)
                          have hs29 : w28.cell? ⟨gb134, 0, none⟩ = some (.string (⟨#[]⟩ : ByteArray)) := (blk_cell BK134.out 0).trans rfl
                          have hfs29 := blk_frozen BK134.out 0
                          have hs30 : w28.cell? ⟨gb134, 1, none⟩ = some (.string (⟨#[]⟩ : ByteArray)) := (blk_cell BK134.out 1).trans rfl
                          have hfs30 := blk_frozen BK134.out 1
                          have hs31 : w28.cell? ⟨gb134, 2, none⟩ = some (.int .i64 0) := (blk_cell BK134.out 2).trans rfl
                          have hfs31 := blk_frozen BK134.out 2
                          refine skip_ (w1 := ?_) (by rfl) rfl ?_ ?_
                          rotate_left
                          · go_simp
                            rfl
                          refine hK.out _ _ (((cell_far (p := ⟨gb134, _, none⟩) (by first | exact Kd.own_blk (Kd.R_ne HO_5.out BK134.out (by decide)) | (rw [add_block]; exact Kd.own_blk (Kd.R_ne HO_5.out BK134.out (by decide))) | (show (Addr.add _ _).block ≠ _; rw [add_block]; exact Kd.own_blk (Kd.R_ne HO_5.out BK134.out (by decide))) | (dsimp only; exact Kd.own_blk (Kd.R_ne HO_5.out BK134.out (by decide)))) _).trans (((cell_far (p := ⟨gb134, _, none⟩) (by first | exact Kd.own_blk (Kd.R_ne HO_5.out BK134.out (by decide)) | (rw [add_block]; exact Kd.own_blk (Kd.R_ne HO_5.out BK134.out (by decide))) | (show (Addr.add _ _).block ≠ _; rw [add_block]; exact Kd.own_blk (Kd.R_ne HO_5.out BK134.out (by decide))) | (dsimp only; exact Kd.own_blk (Kd.R_ne HO_5.out BK134.out (by decide)))) _).trans (((cell_far (p := ⟨gb134, _, none⟩) (by first | exact Kd.own_blk (Kd.R_ne HO_5.out BK134.out (by decide)) | (rw [add_block]; exact Kd.own_blk (Kd.R_ne HO_5.out BK134.out (by decide))) | (show (Addr.add _ _).block ≠ _; rw [add_block]; exact Kd.own_blk (Kd.R_ne HO_5.out BK134.out (by decide))) | (dsimp only; exact Kd.own_blk (Kd.R_ne HO_5.out BK134.out (by decide)))) _).trans (hHeld))))))) (fun hHeld => ?_)
                          clear hK K
                          refine pure_ (i := 6) (N := some 3) (v := ?_) (a' := ?_) #[true, true, true, true, true, true, true, false] rfl rfl (any_of HT_.out (by kernel_rfl)) (fun _ _ _ h => h) (Or.inl ⟨by rfl, ?_⟩) ?_ ?_
                          rotate_left
                          · intro w'
                            go_simp
                            with_reducible rfl
                          rotate_left
                          · simp only [Act.put, List.setIfInBounds_toArray, List.set_cons_zero, List.set_cons_succ, i64_w, i32_w]
                            rfl
                          refine pure_ (i := 7) (N := some 4) (v := ?_) (a' := ?_) #[true, true, true, true, true, true, true, true] rfl rfl (any_of HT_.out (by kernel_rfl)) (fun _ _ _ h => h) (Or.inl ⟨by rfl, ?_⟩) ?_ ?_
                          rotate_left
                          · intro w'
                            go_simp
                            with_reducible rfl
                          rotate_left
                          · simp only [Act.put, List.setIfInBounds_toArray, List.set_cons_zero, List.set_cons_succ, i64_w, i32_w]
                            rfl
                          refine done_ (done_of HT_.out (by kernel_rfl)) ?_
                          try go_wp2
                          refine bodyPost_ret (results_ctt rfl _ _ gb134 29 #[.string (⟨#[]⟩ : ByteArray), .string (⟨#[]⟩ : ByteArray), .int .i64 0] (0, 0) _ rfl (by (with_reducible repeat (first | refine blk_drewN ?_ _ | refine blk_drew ?_ | refine blk_alloc ?_ _)); refine blk_put (cs := #[.string (⟨#[]⟩ : ByteArray), .string (⟨#[]⟩ : ByteArray), .int .i64 0]) ?_ 2 _ rfl; (with_reducible repeat (first | refine blk_drewN ?_ _ | refine blk_drew ?_ | refine blk_alloc ?_ _)); refine blk_put (cs := #[.string (⟨#[]⟩ : ByteArray), .string (⟨#[]⟩ : ByteArray), .int .i64 0]) ?_ 1 _ rfl; (with_reducible repeat (first | refine blk_drewN ?_ _ | refine blk_drew ?_ | refine blk_alloc ?_ _)); refine blk_put (cs := #[.string (⟨#[]⟩ : ByteArray), .string (⟨#[]⟩ : ByteArray), .int .i64 0]) ?_ 0 _ rfl; (with_reducible repeat (first | refine blk_drewN ?_ _ | refine blk_drew ?_ | refine blk_alloc ?_ _)); exact BK134.out) Tryd.underlying29 rfl (by kernel_rfl)) rfl ?_
                          exact ⟨by first | rfl | (simp [errW_none, errW_some] <;> rfl) | (simp only [← hji21]; first | rfl | (simp [errW_none, errW_some] <;> rfl)) | (simp [*, errW_none, errW_some] <;> rfl), by repeat (first | (with_reducible first | exact HB.out | apply below_alloc | apply pw_below_drewN | apply below_drew1 | refine below_set ?_ GE134.out) | exact HB.out)⟩
                        · rw [if_neg c25] at H
                          have c25b0 : ((a0.extract ((ji21) : Int).toNat ((rd x5_1 1) : Int).toNat).toList == ([] : List UInt8)) = false := beq_eq_false_iff_ne.mpr c25
                          have c25b1 : ((a0.extract ((ji21) : Int).toNat ((rd x5_1 1) : Int).toNat).toList != ([] : List UInt8)) = true := bne_iff_ne.mpr c25
                          have H' := Aside0.mk H
                          clear H
                          try go_wp2
                          have n0_ := Aside0.mk (Kd.R_drew HO_5.out)
                          have n1_ := Aside0.mk (blk_drew BK134.out)
                          have n2_ := Aside0.mk (below_drew1 HB.out)
                          clear HO_5
                          clear BK134
                          clear HB
                          have HO_5 := n0_
                          have BK134 := n1_
                          have HB := n2_
                          clear n0_ n1_ n2_
                          obtain ⟨Ao33, co33, eo33⟩ := Kd.R_slice HO_5.out
                          (first | subst eo33 | (injection eo33 with f1_ f2_ f3_; have f4_ := f1_.symm; have f5_ := f3_.symm; clear f1_ f2_ f3_; subst f4_; subst f5_))
                          have p140 : 0 ≤ (0 : Int) := (by omega)
                          have q140 : 0 < (x5_1.length : Int) := of_decide_eq_true (by first | (with_reducible assumption) | assumption)
                          obtain ⟨ad140, e140, hx140_0⟩ := Kd.at_int (Kd.R_reads' HO_5.out).2.2 0 p140 q140
                          cases e140
                          have qi140 : (0 < x5_1.length) = True := eq_true (by omega)
                          (try rw [show ((0 : Int)).toNat = 0 from rfl] at hx140_0)
                          (try rw [Addr.add_zero'] at hx140_0)
                          replace p140 := eq_true p140
                          replace q140 := eq_true q140
                          have p141 : 0 ≤ (1 : Int) := (by omega)
                          have q141 : 1 < (x5_1.length : Int) := of_decide_eq_true (by first | (with_reducible assumption) | assumption)
                          obtain ⟨ad141, e141, hx141_0⟩ := Kd.at_int (Kd.R_reads' HO_5.out).2.2 1 p141 q141
                          obtain rfl : ad140 = ad141 := (by injection e141)
                          (try simp only [show (1 : Int).toNat = 1 from rfl, Nat.reduceMul, Nat.reduceEqDiff, Go.Addr.add, ↓reduceIte] at hx141_0)
                          have qi141 : (1 < x5_1.length) = True := eq_true (by omega)
                          (try rw [show ((1 : Int)).toNat = 1 from rfl] at hx141_0)
                          replace p141 := eq_true p141
                          replace q141 := eq_true q141
                          refine start_ (n := 10) (S := fun w' => w'.cell? ad140 = some (.int .i64 (rd x5_1 0)) ∧ w'.cell? ⟨ad140.block, ad140.off + 1, none⟩ = some (.int .i64 (rd x5_1 1))) (ds := []) #[false, false, false, false, false, false, false, false, false, false] (by kernel_rfl) rfl rfl ⟨hx140_0, hx141_0⟩ (fun hHeld => ?_); refine with_tabW doorkeeperref10_Parse.tab9 doorkeeperref10_Parse.bits9 (fun HT_ HW_ => ?_)
                          generalize wc.drew = w32 at HO_5 BK134 HB hx140_0 hx141_0 hHeld ⊢
                          refine pure_ (i := 0) (N := some 38) (v := ?_) (a' := ?_) #[true, false, false, false, false, false, false, false, false, false] rfl rfl (any_of HT_.out (by kernel_rfl)) (fun _ _ _ h => h) (Or.inl ⟨by rfl, ?_⟩) ?_ ?_
                          rotate_left
                          · intro w'
                            go_simp
                            with_reducible rfl
                          rotate_left
                          · simp only [Act.put, List.setIfInBounds_toArray, List.set_cons_zero, List.set_cons_succ, i64_w, i32_w]
                            rfl
                          refine pure_ (i := 1) (N := some 39) (v := ?_) (a' := ?_) #[true, true, false, false, false, false, false, false, false, false] rfl rfl (any_of HT_.out (by kernel_rfl)) (fun _ _ _ h => h) (Or.inl ⟨by rfl, ?_⟩) ?_ ?_
                          rotate_left
                          · intro w'
                            go_simp
                            with_reducible rfl
                          rotate_left
                          · simp only [Act.put, List.setIfInBounds_toArray, List.set_cons_zero, List.set_cons_succ, i64_w, i32_w]
                            rfl
                          refine pure_ (i := 2) (N := some 40) (v := ?_) (a' := ?_) #[true, true, true, false, false, false, false, false, false, false] rfl rfl (any_of HT_.out (by kernel_rfl)) (fun _ _ _ h => h) (Or.inl ⟨by rfl, ?_⟩) ?_ ?_
                          rotate_left
                          · intro w'
                            go_simp
                            with_reducible rfl
                          rotate_left
                          · simp only [Act.put, List.setIfInBounds_toArray, List.set_cons_zero, List.set_cons_succ, i64_w, i32_w]
                            rfl
                          refine pure_ (i := 5) (N := some 43) (v := ?_) (a' := ?_) #[true, true, true, false, false, true, false, false, false, false] rfl rfl (any_of HT_.out (by kernel_rfl)) (fun _ _ _ h => h) (Or.inl ⟨by rfl, ?_⟩) ?_ ?_
                          rotate_left
                          · intro w'
                            go_simp
                            with_reducible rfl
                          rotate_left
                          · simp only [Act.put, List.setIfInBounds_toArray, List.set_cons_zero, List.set_cons_succ, i64_w, i32_w]
                            rfl
                          refine pure_ (i := 6) (N := some 44) (v := ?_) (a' := ?_) #[true, true, true, false, false, true, true, false, false, false] rfl rfl (any_of HT_.out (by kernel_rfl)) (fun _ _ _ h => h) (Or.inl ⟨by rfl, ?_⟩) ?_ ?_
                          rotate_left
                          · intro w'
                            go_simp
                            with_reducible rfl
                          rotate_left
                          · simp only [Act.put, List.setIfInBounds_toArray, List.set_cons_zero, List.set_cons_succ, i64_w, i32_w]
                            rfl
                          refine take_ (i := 3) (N := some 41) (v := ?_) (a' := ?_) #[true, true, true, true, false, true, true, false, false, false] rfl rfl (take_ofW HT_.out HW_.out (by kernel_rfl)) (fun _ _ _ h => h) (Or.inl ⟨by rfl, ?_⟩) hHeld ?_ ?_
                          rotate_left
                          · rintro w' ⟨s0, s1⟩
                            go_simp
                            with_reducible rfl
                          rotate_left
                          · simp only [Act.put, List.setIfInBounds_toArray, List.set_cons_zero, List.set_cons_succ, i64_w, i32_w]
                            rfl
                          refine pure_ (i := 4) (N := some 42) (v := ?_) (a' := ?_) #[true, true, true, true, true, true, true, false, false, false] rfl rfl (any_of HT_.out (by kernel_rfl)) (fun _ _ _ h => h) (Or.inl ⟨by rfl, ?_⟩) ?_ ?_
                          rotate_left
                          · intro w'
                            go_simp
                            with_reducible rfl
                          rotate_left
                          · simp only [Act.put, List.setIfInBounds_toArray, List.set_cons_zero, List.set_cons_succ, i64_w, i32_w]
                            rfl
                          refine take_ (i := 7) (N := some 45) (v := ?_) (a' := ?_) #[true, true, true, true, true, true, true, true, false, false] rfl rfl (take_ofW HT_.out HW_.out (by kernel_rfl)) (fun _ _ _ h => h) (Or.inl ⟨by rfl, ?_⟩) hHeld ?_ ?_
                          rotate_left
                          · rintro w' ⟨s0, s1⟩
                            go_simp
                            with_reducible rfl
                          rotate_left
                          · simp only [Act.put, List.setIfInBounds_toArray, List.set_cons_zero, List.set_cons_succ, i64_w, i32_w]
                            rfl
                          refine pure_ (i := 8) (N := some 46) (v := ?_) (a' := ?_) #[true, true, true, true, true, true, true, true, true, false] rfl rfl (any_of HT_.out (by kernel_rfl)) (fun _ _ _ h => h) (Or.inl ⟨by rfl, ?_⟩) ?_ ?_
                          rotate_left
                          · intro w'
                            go_simp
                            with_reducible rfl
                          rotate_left
                          · simp only [Act.put, List.setIfInBounds_toArray, List.set_cons_zero, List.set_cons_succ, i64_w, i32_w]
                            rfl
                          refine pure_ (i := 9) (N := some 7) (v := ?_) (a' := ?_) #[true, true, true, true, true, true, true, true, true, true] rfl rfl (any_of HT_.out (by kernel_rfl)) (fun _ _ _ h => h) (Or.inl ⟨by rfl, ?_⟩) ?_ ?_
                          rotate_left
                          · intro w'
                            go_simp
                            with_reducible rfl
                          rotate_left
                          · simp only [Act.put, List.setIfInBounds_toArray, List.set_cons_zero, List.set_cons_succ, i64_w, i32_w]
                            rfl
                          refine done_ (done_of HT_.out (by kernel_rfl)) ?_
                          try go_wp2
                          go_loopg [8] kj8 (fun kq v8 w' => ∃ (x8_3 : Int) (x135000_3 : ByteArray) (x135001_3 : ByteArray) (x135002_3 : Int), v8 = .int .i64 x8_3 ∧ Aside0 (doorkeeperref10_Parse.l1 kq a0 x5_1 (a0.extract ((ji21) : Int).toNat ((rd x5_1 1) : Int).toNat) x8_3 = some (r1, r2, r3, r4, r5)) ∧ Aside0 (kq ≤ kj8) ∧ Aside0 (Kd.R (Kd.int .i64) 3 w' w.heap.size (fun _ => True) (.slice (some ad140) x5_1.length co33) x5_1) ∧ Aside0 (w'.heap[gb134]? = some (.cells #[.string x135000_3, .string x135001_3, .int .i64 x135002_3] 29 (0, 0))) ∧ Aside0 (Below w.heap.size w w'))
                          case atStart => exact ⟨(0), ((⟨#[]⟩ : ByteArray)), ((⟨#[]⟩ : ByteArray)), (0), (by first | rfl | (simp; done) | (simp [*]; done)), H', ⟨Nat.le_refl _⟩, ⟨by (with_reducible repeat (first | apply Kd.R_alloc | apply Kd.R_drewN | apply Kd.R_drew)); exact HO_5.out⟩, ⟨by (with_reducible repeat (first | refine blk_drewN ?_ _ | refine blk_drew ?_ | refine blk_alloc ?_ _)); exact BK134.out⟩, ⟨by repeat (first | (with_reducible first | exact HB.out | apply below_alloc | apply pw_below_drewN | apply below_drew1 | refine below_set ?_ GE134.out) | exact HB.out)⟩⟩
                          case round =>
                            clear H'
                            try clear c1
                            try clear p1
                            try clear q1
                            try clear hx1
                            try clear qi1
                            try clear c2
                            try clear p2
                            try clear c3
                            try clear c3b0
                            try clear c4
                            try clear c4b0
                            try clear p5
                            try clear q5
                            try clear hx5
                            try clear c6
                            try clear c6b0
                            try clear c6b1
                            try clear p6
                            try clear c7
                            try clear c10
                            try clear c10b0
                            try clear c10b1
                            try clear c11
                            try clear c11b0
                            try clear c11b1
                            try clear c12
                            try clear c12b0
                            try clear c12b1
                            try clear c13
                            try clear c13b0
                            try clear c13b1
                            try clear p13
                            try clear q13
                            try clear hx13
                            try clear qi13
                            try clear p14
                            try clear q14
                            try clear hx14
                            try clear qi14
                            try clear c17
                            try clear c19
                            try clear c19b0
                            try clear c19b1
                            try clear c20
                            try clear c20b0
                            try clear c20b1
                            try clear c22
                            try clear c22b0
                            try clear c22b1
                            try clear c23
                            try clear c23b0
                            try clear c23b1
                            try clear c24
                            try clear c24b0
                            try clear c24b1
                            try clear c25
                            try clear c25b0
                            try clear c25b1
                            try clear hcz18_0
                            try clear hcz18_1
                            try clear hcz18_2
                            try clear hfz18_0
                            try clear hfz18_1
                            try clear hfz18_2
                            try clear hx138_0
                            try clear hx140_0
                            try clear hx141_0
                            try clear hx142_0
                            try clear p1
                            try clear p13
                            try clear p138
                            try clear p140
                            try clear p141
                            try clear p142
                            try clear p2
                            try clear p5
                            try clear p6
                            try clear q1
                            try clear q13
                            try clear q138
                            try clear q140
                            try clear q141
                            try clear q142
                            try clear q5
                            obtain ⟨x8_3, x135000_3, x135001_3, x135002_3, rfl, HA, HK3, HO_5, BK134, HB⟩ := hrel
                            cases gk with
                            | zero => exact absurd HA.out (by simp [doorkeeperref10_Parse.l1])
                            | succ k3 =>
                              have H := HA.out
                              clear HA
                              simp only [doorkeeperref10_Parse.l1] at H
                              by_cases c34 : x8_3 < ((a0.extract ((ji21) : Int).toNat ((rd x5_1 1) : Int).toNat).size : Int)
                              · rw [if_pos c34] at H
                                have c34b0 : decide (x8_3 < ((a0.extract ((ji21) : Int).toNat ((rd x5_1 1) : Int).toNat).size : Int)) = true := decide_eq_true c34
                                clear c34
                                by_cases c35 : 0 ≤ x8_3
                                · rw [if_pos c35] at H
                                  have c35b0 : decide (0 ≤ x8_3) = true := decide_eq_true c35
                                  clear c35
                                  by_cases c37 : (bt (a0.extract ((ji21) : Int).toNat ((rd x5_1 1) : Int).toNat) x8_3) < 33
                                  · rw [if_pos c37] at H
                                    have c37b0 : decide ((bt (a0.extract ((ji21) : Int).toNat ((rd x5_1 1) : Int).toNat) x8_3) < 33) = true := decide_eq_true c37
                                    clear c37
                                    by_cases c38 : 0 < (x5_1.length : Int)
                                    · rw [if_pos c38] at H
                                      have c38b0 : decide (0 < (x5_1.length : Int)) = true := decide_eq_true c38
                                      have c38b1 : decide (0 < x5_1.length) = true := decide_eq_true (by omega)
                                      clear c38
                                      simp only [Option.some.injEq, Prod.mk.injEq] at H
                                      obtain ⟨rfl, rfl, rfl, rfl, rfl⟩ := H
                                      have p36 : 0 ≤ (x8_3 : Int) := of_decide_eq_true (by first | (with_reducible assumption) | assumption)
                                      have q36 : x8_3 < ((a0.extract ((ji21) : Int).toNat ((rd x5_1 1) : Int).toNat).size : Int) := of_decide_eq_true (by first | (with_reducible assumption) | assumption)
                                      have hx36 := bt_at (a0.extract ((ji21) : Int).toNat ((rd x5_1 1) : Int).toNat) x8_3
                                      replace p36 := eq_true p36
                                      replace q36 := eq_true q36
                                      have c34b0z : decide (x8_3 < ((min (rd x5_1 1).toNat a0.size - ji21.toNat : Nat) : Int)) = true := by have h_ := c34b0; rw [ByteArray.size_extract] at h_; exact h_
                                      have c34b1z : (x8_3 < ((min (rd x5_1 1).toNat a0.size - ji21.toNat : Nat) : Int)) = True := eq_true (of_decide_eq_true c34b0z) -- b0z
                                      have c34b2z : (((min (rd x5_1 1).toNat a0.size - ji21.toNat : Nat) : Int) ≤ x8_3) = False := eq_false (Int.not_le.2 (of_decide_eq_true c34b0z)) -- b0z
                                      try go_wp2
                                      have n0_ := Aside0.mk (Kd.R_drew HO_5.out)
                                      have n1_ := Aside0.mk (blk_drew BK134.out)
                                      have n2_ := Aside0.mk (below_drew1 HB.out)
                                      clear HO_5
                                      clear BK134
                                      clear HB
                                      have HO_5 := n0_
                                      have BK134 := n1_
                                      have HB := n2_
                                      clear n0_ n1_ n2_
                                      have p143 : 0 ≤ (0 : Int) := (by omega)
                                      have q143 : 0 < (x5_1.length : Int) := of_decide_eq_true (by first | (with_reducible assumption) | assumption)
                                      obtain ⟨ad143, e143, hx143_0⟩ := Kd.at_int (Kd.R_reads' HO_5.out).2.2 0 p143 q143
                                      obtain rfl : ad140 = ad143 := (by injection e143)
                                      have qi143 : (0 < x5_1.length) = True := eq_true (by omega)
                                      (try rw [show ((0 : Int)).toNat = 0 from rfl] at hx143_0)
                                      (try rw [Addr.add_zero'] at hx143_0)
                                      replace p143 := eq_true p143
                                      replace q143 := eq_true q143
                                      refine start_ (n := 8) (S := fun w' => w'.cell? ad140 = some (.int .i64 (rd x5_1 0))) (ds := []) #[false, false, false, false, false, false, false, false] (by kernel_rfl) rfl rfl (hx143_0) (fun hHeld => ?_); refine with_tabW doorkeeperref10_Parse.tab16 doorkeeperref10_Parse.bits16 (fun HT_ HW_ => ?_)
                                      generalize wr.drew = w39 at HO_5 BK134 HB hx143_0 hHeld ⊢
                                      refine pure_ (i := 0) (N := some 70) (v := ?_) (a' := ?_) #[true, false, false, false, false, false, false, false] rfl rfl (any_of HT_.out (by kernel_rfl)) (fun _ _ _ h => h) (Or.inl ⟨by rfl, ?_⟩) ?_ ?_
                                      rotate_left
                                      · intro w'
                                        go_simp
                                        with_reducible rfl
                                      rotate_left
                                      · simp only [Act.put, List.setIfInBounds_toArray, List.set_cons_zero, List.set_cons_succ, i64_w, i32_w]
                                        rfl
                                      refine pure_ (i := 1) (N := some 71) (v := ?_) (a' := ?_) #[true, true, false, false, false, false, false, false] rfl rfl (any_of HT_.out (by kernel_rfl)) (fun _ _ _ h => h) (Or.inl ⟨by rfl, ?_⟩) ?_ ?_
                                      rotate_left
                                      · intro w'
                                        go_simp
                                        with_reducible rfl
                                      rotate_left
                                      · simp only [Act.put, List.setIfInBounds_toArray, List.set_cons_zero, List.set_cons_succ, i64_w, i32_w]
                                        rfl
                                      refine pure_ (i := 2) (N := some 72) (v := ?_) (a' := ?_) #[true, true, true, false, false, false, false, false] rfl rfl (any_of HT_.out (by kernel_rfl)) (fun _ _ _ h => h) (Or.inl ⟨by rfl, ?_⟩) ?_ ?_
                                      rotate_left
                                      · intro w'
                                        go_simp
                                        with_reducible rfl
                                      rotate_left
                                      · simp only [Act.put, List.setIfInBounds_toArray, List.set_cons_zero, List.set_cons_succ, i64_w, i32_w]
                                        rfl
                                      refine take_ (i := 3) (N := some 73) (v := ?_) (a' := ?_) #[true, true, true, true, false, false, false, false] rfl rfl (take_ofW HT_.out HW_.out (by kernel_rfl)) (fun _ _ _ h => h) (Or.inl ⟨by rfl, ?_⟩) hHeld ?_ ?_
                                      rotate_left
                                      · intro w' s0
                                        go_simp
                                        with_reducible rfl
                                      rotate_left
                                      · simp only [Act.put, List.setIfInBounds_toArray, List.set_cons_zero, List.set_cons_succ, i64_w, i32_w]
                                        rfl
                                      refine pure_ (i := 4) (N := some 74) (v := ?_) (a' := ?_) #[true, true, true, true, true, false, false, false] rfl rfl (any_of HT_.out (by kernel_rfl)) (fun _ _ _ h => h) (Or.inl ⟨by rfl, ?_⟩) ?_ ?_
                                      rotate_left
                                      · intro w'
                                        go_simp
                                        with_reducible rfl
                                      rotate_left
                                      · simp only [Act.put, List.setIfInBounds_toArray, List.set_cons_zero, List.set_cons_succ, i64_w, i32_w]
                                        rfl
                                      refine one_ (i := 5) (N := none) #[true, true, true, true, true, true, false, false] rfl rfl (one_of HT_.out (by kernel_rfl)) (by decide) (fun K hK => ?_)
                                      have hs40 : w39.cell? ⟨gb134, 0, none⟩ = some (.string x135000_3) := (blk_cell BK134.out 0).trans rfl
                                      have hfs40 := blk_frozen BK134.out 0
                                      have hs41 : w39.cell? ⟨gb134, 1, none⟩ = some (.string x135001_3) := (blk_cell BK134.out 1).trans rfl
                                      have hfs41 := blk_frozen BK134.out 1
                                      have hs42 : w39.cell? ⟨gb134, 2, none⟩ = some (.int .i64 x135002_3) := (blk_cell BK134.out 2).trans rfl
                                      have hfs42 := blk_frozen BK134.out 2
                                      refine skip_ (w1 := ?_) (by rfl) rfl ?_ ?_
                                      rotate_left
                                      · go_simp
                                        rfl
                                      refine hK.out _ _ (((cell_far (p := ⟨gb134, _, none⟩) (by first | exact Kd.own_blk (Kd.R_ne HO_5.out BK134.out (by decide)) | (rw [add_block]; exact Kd.own_blk (Kd.R_ne HO_5.out BK134.out (by decide))) | (show (Addr.add _ _).block ≠ _; rw [add_block]; exact Kd.own_blk (Kd.R_ne HO_5.out BK134.out (by decide))) | (dsimp only; exact Kd.own_blk (Kd.R_ne HO_5.out BK134.out (by decide)))) _).trans (((cell_far (p := ⟨gb134, _, none⟩) (by first | exact Kd.own_blk (Kd.R_ne HO_5.out BK134.out (by decide)) | (rw [add_block]; exact Kd.own_blk (Kd.R_ne HO_5.out BK134.out (by decide))) | (show (Addr.add _ _).block ≠ _; rw [add_block]; exact Kd.own_blk (Kd.R_ne HO_5.out BK134.out (by decide))) | (dsimp only; exact Kd.own_blk (Kd.R_ne HO_5.out BK134.out (by decide)))) _).trans (((cell_far (p := ⟨gb134, _, none⟩) (by first | exact Kd.own_blk (Kd.R_ne HO_5.out BK134.out (by decide)) | (rw [add_block]; exact Kd.own_blk (Kd.R_ne HO_5.out BK134.out (by decide))) | (show (Addr.add _ _).block ≠ _; rw [add_block]; exact Kd.own_blk (Kd.R_ne HO_5.out BK134.out (by decide))) | (dsimp only; exact Kd.own_blk (Kd.R_ne HO_5.out BK134.out (by decide)))) _).trans (hHeld))))))) (fun hHeld => ?_)
                                      clear hK K
                                      refine pure_ (i := 6) (N := some 3) (v := ?_) (a' := ?_) #[true, true, true, true, true, true, true, false] rfl rfl (any_of HT_.out (by kernel_rfl)) (fun _ _ _ h => h) (Or.inl ⟨by rfl, ?_⟩) ?_ ?_
                                      rotate_left
                                      · intro w'
                                        go_simp
                                        with_reducible rfl
                                      rotate_left
                                      · simp only [Act.put, List.setIfInBounds_toArray, List.set_cons_zero, List.set_cons_succ, i64_w, i32_w]
                                        rfl
                                      refine pure_ (i := 7) (N := some 4) (v := ?_) (a' := ?_) #[true, true, true, true, true, true, true, true] rfl rfl (any_of HT_.out (by kernel_rfl)) (fun _ _ _ h => h) (Or.inl ⟨by rfl, ?_⟩) ?_ ?_
                                      rotate_left
                                      · intro w'
                                        go_simp
                                        with_reducible rfl
                                      rotate_left
                                      · simp only [Act.put, List.setIfInBounds_toArray, List.set_cons_zero, List.set_cons_succ, i64_w, i32_w]
                                        rfl
                                      refine done_ (done_of HT_.out (by kernel_rfl)) ?_
                                      try go_wp2
                                      refine bodyPost_ret (results_ctt rfl _ _ gb134 29 #[.string (⟨#[]⟩ : ByteArray), .string (⟨#[]⟩ : ByteArray), .int .i64 0] (0, 0) _ rfl (by (with_reducible repeat (first | refine blk_drewN ?_ _ | refine blk_drew ?_ | refine blk_alloc ?_ _)); refine blk_put (cs := #[.string (⟨#[]⟩ : ByteArray), .string (⟨#[]⟩ : ByteArray), .int .i64 x135002_3]) ?_ 2 _ rfl; (with_reducible repeat (first | refine blk_drewN ?_ _ | refine blk_drew ?_ | refine blk_alloc ?_ _)); refine blk_put (cs := #[.string (⟨#[]⟩ : ByteArray), .string x135001_3, .int .i64 x135002_3]) ?_ 1 _ rfl; (with_reducible repeat (first | refine blk_drewN ?_ _ | refine blk_drew ?_ | refine blk_alloc ?_ _)); refine blk_put (cs := #[.string x135000_3, .string x135001_3, .int .i64 x135002_3]) ?_ 0 _ rfl; (with_reducible repeat (first | refine blk_drewN ?_ _ | refine blk_drew ?_ | refine blk_alloc ?_ _)); exact BK134.out) Tryd.underlying29 rfl (by kernel_rfl)) rfl ?_
                                      exact ⟨by first | rfl | (simp [errW_none, errW_some] <;> rfl) | (simp only [← hji21]; first | rfl | (simp [errW_none, errW_some] <;> rfl)) | (simp [*, errW_none, errW_some] <;> rfl), by repeat (first | (with_reducible first | exact HB.out | apply below_alloc | apply pw_below_drewN | apply below_drew1 | refine below_set ?_ GE134.out) | exact HB.out)⟩
                                    · rw [if_neg c38] at H
                                      exact absurd H (by simp)
                                  · rw [if_neg c37] at H
                                    have c37b0 : decide ((bt (a0.extract ((ji21) : Int).toNat ((rd x5_1 1) : Int).toNat) x8_3) < 33) = false := decide_eq_false c37
                                    clear c37
                                    by_cases c44 : (bt (a0.extract ((ji21) : Int).toNat ((rd x5_1 1) : Int).toNat) x8_3) > 126
                                    · rw [if_pos c44] at H
                                      have c44b0 : decide (126 < (bt (a0.extract ((ji21) : Int).toNat ((rd x5_1 1) : Int).toNat) x8_3)) = true := decide_eq_true c44
                                      clear c44
                                      by_cases c45 : 0 < (x5_1.length : Int)
                                      · rw [if_pos c45] at H
                                        have c45b0 : decide (0 < (x5_1.length : Int)) = true := decide_eq_true c45
                                        have c45b1 : decide (0 < x5_1.length) = true := decide_eq_true (by omega)
                                        clear c45
                                        simp only [Option.some.injEq, Prod.mk.injEq] at H
                                        obtain ⟨rfl, rfl, rfl, rfl, rfl⟩ := H
                                        have p36 : 0 ≤ (x8_3 : Int) := of_decide_eq_true (by first | (with_reducible assumption) | assumption)
                                        have q36 : x8_3 < ((a0.extract ((ji21) : Int).toNat ((rd x5_1 1) : Int).toNat).size : Int) := of_decide_eq_true (by first | (with_reducible assumption) | assumption)
                                        have hx36 := bt_at (a0.extract ((ji21) : Int).toNat ((rd x5_1 1) : Int).toNat) x8_3
                                        replace p36 := eq_true p36
                                        replace q36 := eq_true q36
                                        have c34b0z : decide (x8_3 < ((min (rd x5_1 1).toNat a0.size - ji21.toNat : Nat) : Int)) = true := by have h_ := c34b0; rw [ByteArray.size_extract] at h_; exact h_
                                        have c34b1z : (x8_3 < ((min (rd x5_1 1).toNat a0.size - ji21.toNat : Nat) : Int)) = True := eq_true (of_decide_eq_true c34b0z) -- b0z
                                        have c34b2z : (((min (rd x5_1 1).toNat a0.size - ji21.toNat : Nat) : Int) ≤ x8_3) = False := eq_false (Int.not_le.2 (of_decide_eq_true c34b0z)) -- b0z
                                        have p43 : 0 ≤ (x8_3 : Int) := of_decide_eq_true (by first | (with_reducible assumption) | assumption)
                                        have q43 : x8_3 < ((a0.extract ((ji21) : Int).toNat ((rd x5_1 1) : Int).toNat).size : Int) := of_decide_eq_true (by first | (with_reducible assumption) | assumption)
                                        have hx43 := bt_at (a0.extract ((ji21) : Int).toNat ((rd x5_1 1) : Int).toNat) x8_3
                                        replace p43 := eq_true p43
                                        replace q43 := eq_true q43
                                        try go_wp2
                                        have n0_ := Aside0.mk (Kd.R_drew HO_5.out)
                                        have n1_ := Aside0.mk (blk_drew BK134.out)
                                        have n2_ := Aside0.mk (below_drew1 HB.out)
                                        clear HO_5
                                        clear BK134
                                        clear HB
                                        have HO_5 := n0_
                                        have BK134 := n1_
                                        have HB := n2_
                                        clear n0_ n1_ n2_
                                        have p144 : 0 ≤ (0 : Int) := (by omega)
                                        have q144 : 0 < (x5_1.length : Int) := of_decide_eq_true (by first | (with_reducible assumption) | assumption)
                                        obtain ⟨ad144, e144, hx144_0⟩ := Kd.at_int (Kd.R_reads' HO_5.out).2.2 0 p144 q144
                                        obtain rfl : ad140 = ad144 := (by injection e144)
                                        have qi144 : (0 < x5_1.length) = True := eq_true (by omega)
                                        (try rw [show ((0 : Int)).toNat = 0 from rfl] at hx144_0)
                                        (try rw [Addr.add_zero'] at hx144_0)
                                        replace p144 := eq_true p144
                                        replace q144 := eq_true q144
                                        refine start_ (n := 8) (S := fun w' => w'.cell? ad140 = some (.int .i64 (rd x5_1 0))) (ds := []) #[false, false, false, false, false, false, false, false] (by kernel_rfl) rfl rfl (hx144_0) (fun hHeld => ?_); refine with_tabW doorkeeperref10_Parse.tab16 doorkeeperref10_Parse.bits16 (fun HT_ HW_ => ?_)
                                        generalize wr.drew = w46 at HO_5 BK134 HB hx144_0 hHeld ⊢
                                        refine pure_ (i := 0) (N := some 70) (v := ?_) (a' := ?_) #[true, false, false, false, false, false, false, false] rfl rfl (any_of HT_.out (by kernel_rfl)) (fun _ _ _ h => h) (Or.inl ⟨by rfl, ?_⟩) ?_ ?_
                                        rotate_left
                                        · intro w'
                                          go_simp
                                          with_reducible rfl
                                        rotate_left
                                        · simp only [Act.put, List.setIfInBounds_toArray, List.set_cons_zero, List.set_cons_succ, i64_w, i32_w]
                                          rfl
                                        refine pure_ (i := 1) (N := some 71) (v := ?_) (a' := ?_) #[true, true, false, false, false, false, false, false] rfl rfl (any_of HT_.out (by kernel_rfl)) (fun _ _ _ h => h) (Or.inl ⟨by rfl, ?_⟩) ?_ ?_
                                        rotate_left
                                        · intro w'
                                          go_simp
                                          with_reducible rfl
                                        rotate_left
                                        · simp only [Act.put, List.setIfInBounds_toArray, List.set_cons_zero, List.set_cons_succ, i64_w, i32_w]
                                          rfl
                                        refine pure_ (i := 2) (N := some 72) (v := ?_) (a' := ?_) #[true, true, true, false, false, false, false, false] rfl rfl (any_of HT_.out (by kernel_rfl)) (fun _ _ _ h => h) (Or.inl ⟨by rfl, ?_⟩) ?_ ?_
                                        rotate_left
                                        · intro w'
                                          go_simp
                                          with_reducible rfl
                                        rotate_left
                                        · simp only [Act.put, List.setIfInBounds_toArray, List.set_cons_zero, List.set_cons_succ, i64_w, i32_w]
                                          rfl
                                        refine take_ (i := 3) (N := some 73) (v := ?_) (a' := ?_) #[true, true, true, true, false, false, false, false] rfl rfl (take_ofW HT_.out HW_.out (by kernel_rfl)) (fun _ _ _ h => h) (Or.inl ⟨by rfl, ?_⟩) hHeld ?_ ?_
                                        rotate_left
                                        · intro w' s0
                                          go_simp
                                          with_reducible rfl
                                        rotate_left
                                        · simp only [Act.put, List.setIfInBounds_toArray, List.set_cons_zero, List.set_cons_succ, i64_w, i32_w]
                                          rfl
                                        refine pure_ (i := 4) (N := some 74) (v := ?_) (a' := ?_) #[true, true, true, true, true, false, false, false] rfl rfl (any_of HT_.out (by kernel_rfl)) (fun _ _ _ h => h) (Or.inl ⟨by rfl, ?_⟩) ?_ ?_
                                        rotate_left
                                        · intro w'
                                          go_simp
                                          with_reducible rfl
                                        rotate_left
                                        · simp only [Act.put, List.setIfInBounds_toArray, List.set_cons_zero, List.set_cons_succ, i64_w, i32_w]
                                          rfl
                                        refine one_ (i := 5) (N := none) #[true, true, true, true, true, true, false, false] rfl rfl (one_of HT_.out (by kernel_rfl)) (by decide) (fun K hK => ?_)
                                        have hs47 : w46.cell? ⟨gb134, 0, none⟩ = some (.string x135000_3) := (blk_cell BK134.out 0).trans rfl
                                        have hfs47 := blk_frozen BK134.out 0
                                        have hs48 : w46.cell? ⟨gb134, 1, none⟩ = some (.string x135001_3) := (blk_cell BK134.out 1).trans rfl
                                        have hfs48 := blk_frozen BK134.out 1
                                        have hs49 : w46.cell? ⟨gb134, 2, none⟩ = some (.int .i64 x135002_3) := (blk_cell BK134.out 2).trans rfl
                                        have hfs49 := blk_frozen BK134.out 2
                                        refine skip_ (w1 := ?_) (by rfl) rfl ?_ ?_
                                        rotate_left
                                        · go_simp
                                          rfl
                                        refine hK.out _ _ (((cell_far (p := ⟨gb134, _, none⟩) (by first | exact Kd.own_blk (Kd.R_ne HO_5.out BK134.out (by decide)) | (rw [add_block]; exact Kd.own_blk (Kd.R_ne HO_5.out BK134.out (by decide))) | (show (Addr.add _ _).block ≠ _; rw [add_block]; exact Kd.own_blk (Kd.R_ne HO_5.out BK134.out (by decide))) | (dsimp only; exact Kd.own_blk (Kd.R_ne HO_5.out BK134.out (by decide)))) _).trans (((cell_far (p := ⟨gb134, _, none⟩) (by first | exact Kd.own_blk (Kd.R_ne HO_5.out BK134.out (by decide)) | (rw [add_block]; exact Kd.own_blk (Kd.R_ne HO_5.out BK134.out (by decide))) | (show (Addr.add _ _).block ≠ _; rw [add_block]; exact Kd.own_blk (Kd.R_ne HO_5.out BK134.out (by decide))) | (dsimp only; exact Kd.own_blk (Kd.R_ne HO_5.out BK134.out (by decide)))) _).trans (((cell_far (p := ⟨gb134, _, none⟩) (by first | exact Kd.own_blk (Kd.R_ne HO_5.out BK134.out (by decide)) | (rw [add_block]; exact Kd.own_blk (Kd.R_ne HO_5.out BK134.out (by decide))) | (show (Addr.add _ _).block ≠ _; rw [add_block]; exact Kd.own_blk (Kd.R_ne HO_5.out BK134.out (by decide))) | (dsimp only; exact Kd.own_blk (Kd.R_ne HO_5.out BK134.out (by decide)))) _).trans (hHeld))))))) (fun hHeld => ?_)
                                        clear hK K
                                        refine pure_ (i := 6) (N := some 3) (v := ?_) (a' := ?_) #[true, true, true, true, true, true, true, false] rfl rfl (any_of HT_.out (by kernel_rfl)) (fun _ _ _ h => h) (Or.inl ⟨by rfl, ?_⟩) ?_ ?_
                                        rotate_left
                                        · intro w'
                                          go_simp
                                          with_reducible rfl
                                        rotate_left
                                        · simp only [Act.put, List.setIfInBounds_toArray, List.set_cons_zero, List.set_cons_succ, i64_w, i32_w]
                                          rfl
                                        refine pure_ (i := 7) (N := some 4) (v := ?_) (a' := ?_) #[true, true, true, true, true, true, true, true] rfl rfl (any_of HT_.out (by kernel_rfl)) (fun _ _ _ h => h) (Or.inl ⟨by rfl, ?_⟩) ?_ ?_
                                        rotate_left
                                        · intro w'
                                          go_simp
                                          with_reducible rfl
                                        rotate_left
                                        · simp only [Act.put, List.setIfInBounds_toArray, List.set_cons_zero, List.set_cons_succ, i64_w, i32_w]
                                          rfl
                                        refine done_ (done_of HT_.out (by kernel_rfl)) ?_
                                        try go_wp2
                                        refine bodyPost_ret (results_ctt rfl _ _ gb134 29 #[.string (⟨#[]⟩ : ByteArray), .string (⟨#[]⟩ : ByteArray), .int .i64 0] (0, 0) _ rfl (by (with_reducible repeat (first | refine blk_drewN ?_ _ | refine blk_drew ?_ | refine blk_alloc ?_ _)); refine blk_put (cs := #[.string (⟨#[]⟩ : ByteArray), .string (⟨#[]⟩ : ByteArray), .int .i64 x135002_3]) ?_ 2 _ rfl; (with_reducible repeat (first | refine blk_drewN ?_ _ | refine blk_drew ?_ | refine blk_alloc ?_ _)); refine blk_put (cs := #[.string (⟨#[]⟩ : ByteArray), .string x135001_3, .int .i64 x135002_3]) ?_ 1 _ rfl; (with_reducible repeat (first | refine blk_drewN ?_ _ | refine blk_drew ?_ | refine blk_alloc ?_ _)); refine blk_put (cs := #[.string x135000_3, .string x135001_3, .int .i64 x135002_3]) ?_ 0 _ rfl; (with_reducible repeat (first | refine blk_drewN ?_ _ | refine blk_drew ?_ | refine blk_alloc ?_ _)); exact BK134.out) Tryd.underlying29 rfl (by kernel_rfl)) rfl ?_
                                        exact ⟨by first | rfl | (simp [errW_none, errW_some] <;> rfl) | (simp only [← hji21]; first | rfl | (simp [errW_none, errW_some] <;> rfl)) | (simp [*, errW_none, errW_some] <;> rfl), by repeat (first | (with_reducible first | exact HB.out | apply below_alloc | apply pw_below_drewN | apply below_drew1 | refine below_set ?_ GE134.out) | exact HB.out)⟩
                                      · rw [if_neg c45] at H
                                        exact absurd H (by simp)
                                    · rw [if_neg c44] at H
                                      have c44b0 : decide (126 < (bt (a0.extract ((ji21) : Int).toNat ((rd x5_1 1) : Int).toNat) x8_3)) = false := decide_eq_false c44
                                      clear c44
                                      have H' := Aside0.mk H
                                      clear H
                                      have p36 : 0 ≤ (x8_3 : Int) := of_decide_eq_true (by first | (with_reducible assumption) | assumption)
                                      have q36 : x8_3 < ((a0.extract ((ji21) : Int).toNat ((rd x5_1 1) : Int).toNat).size : Int) := of_decide_eq_true (by first | (with_reducible assumption) | assumption)
                                      have hx36 := bt_at (a0.extract ((ji21) : Int).toNat ((rd x5_1 1) : Int).toNat) x8_3
                                      replace p36 := eq_true p36
                                      replace q36 := eq_true q36
                                      have c34b0z : decide (x8_3 < ((min (rd x5_1 1).toNat a0.size - ji21.toNat : Nat) : Int)) = true := by have h_ := c34b0; rw [ByteArray.size_extract] at h_; exact h_
                                      have c34b1z : (x8_3 < ((min (rd x5_1 1).toNat a0.size - ji21.toNat : Nat) : Int)) = True := eq_true (of_decide_eq_true c34b0z) -- b0z
                                      have c34b2z : (((min (rd x5_1 1).toNat a0.size - ji21.toNat : Nat) : Int) ≤ x8_3) = False := eq_false (Int.not_le.2 (of_decide_eq_true c34b0z)) -- b0z
                                      have p43 : 0 ≤ (x8_3 : Int) := of_decide_eq_true (by first | (with_reducible assumption) | assumption)
                                      have q43 : x8_3 < ((a0.extract ((ji21) : Int).toNat ((rd x5_1 1) : Int).toNat).size : Int) := of_decide_eq_true (by first | (with_reducible assumption) | assumption)
                                      have hx43 := bt_at (a0.extract ((ji21) : Int).toNat ((rd x5_1 1) : Int).toNat) x8_3
                                      replace p43 := eq_true p43
                                      replace q43 := eq_true q43
                                      go_wp2
                                      go_roundg k3
                                      case measure => have := HK1.out; have := HJ8.out; have := HK3.out; omega
                                      case rel => exact ⟨(wrap64 (x8_3 + 1)), (x135000_3), (x135001_3), (x135002_3), (by first | rfl | (simp; done) | (simp [*]; done)), H', ⟨by have := HK1.out; have := HJ8.out; have := HK3.out; omega⟩, ⟨by (with_reducible repeat (first | apply Kd.R_alloc | apply Kd.R_drewN | apply Kd.R_drew)); exact HO_5.out⟩, ⟨by (with_reducible repeat (first | refine blk_drewN ?_ _ | refine blk_drew ?_ | refine blk_alloc ?_ _)); exact BK134.out⟩, ⟨by repeat (first | (with_reducible first | exact HB.out | apply below_alloc | apply pw_below_drewN | apply below_drew1 | refine below_set ?_ GE134.out) | exact HB.out)⟩⟩
                                · rw [if_neg c35] at H
                                  exact absurd H (by simp)
                              · rw [if_neg c34] at H
                                have c34b0 : decide (x8_3 < ((a0.extract ((ji21) : Int).toNat ((rd x5_1 1) : Int).toNat).size : Int)) = false := decide_eq_false c34
                                clear c34
                                by_cases c50 : 1 < (x5_1.length : Int)
                                · rw [if_pos c50] at H
                                  have c50b0 : decide (1 < (x5_1.length : Int)) = true := decide_eq_true c50
                                  have c50b1 : decide (1 < x5_1.length) = true := decide_eq_true (by omega)
                                  clear c50
                                  obtain ⟨ji51, hji51⟩ : ∃ j_ : Int, (wrap64 ((rd x5_1 1) + 1)) = j_ := ⟨_, rfl⟩
                                  replace H : (if 0 ≤ (ji51) then (if (ji51) ≤ (a0.size : Int) then (if ((a0.extract ((ji51) : Int).toNat a0.size).size : Int) = 8 then (if 0 ≤ 5 then (if 5 ≤ ((a0.extract ((ji51) : Int).toNat a0.size).size : Int) then (if ((a0.extract ((ji51) : Int).toNat a0.size).extract 0 5).toList = ([72, 84, 84, 80, 47] : List UInt8) then (if 5 < ((a0.extract ((ji51) : Int).toNat a0.size).size : Int) then ((doorkeeperref02_Class.f k3 (bt (a0.extract ((ji51) : Int).toNat a0.size) 5) 1).bind fun t146 => (if t146 = true then (if 6 < ((a0.extract ((ji51) : Int).toNat a0.size).size : Int) then (if (bt (a0.extract ((ji51) : Int).toNat a0.size) 6) = 46 then (if 7 < ((a0.extract ((ji51) : Int).toNat a0.size).size : Int) then ((doorkeeperref02_Class.f k3 (bt (a0.extract ((ji51) : Int).toNat a0.size) 7) 1).bind fun t147 => (doorkeeperref10_Parse.j3 k3 a0 x5_1 (a0.extract ((ji21) : Int).toNat ((rd x5_1 1) : Int).toNat) (a0.extract ((ji51) : Int).toNat a0.size) (!t147))) else (none)) else (doorkeeperref10_Parse.j3 k3 a0 x5_1 (a0.extract ((ji21) : Int).toNat ((rd x5_1 1) : Int).toNat) (a0.extract ((ji51) : Int).toNat a0.size) true)) else (none)) else (doorkeeperref10_Parse.j3 k3 a0 x5_1 (a0.extract ((ji21) : Int).toNat ((rd x5_1 1) : Int).toNat) (a0.extract ((ji51) : Int).toNat a0.size) true))) else (none)) else (doorkeeperref10_Parse.j3 k3 a0 x5_1 (a0.extract ((ji21) : Int).toNat ((rd x5_1 1) : Int).toNat) (a0.extract ((ji51) : Int).toNat a0.size) true)) else (none)) else (none)) else (doorkeeperref10_Parse.j3 k3 a0 x5_1 (a0.extract ((ji21) : Int).toNat ((rd x5_1 1) : Int).toNat) (a0.extract ((ji51) : Int).toNat a0.size) true)) else (none)) else (none)) = some (r1, r2, r3, r4, r5) := by first | (rw [hji51] at H; exact H) | (simp only [hji51] at H ⊢; exact H)
                                  have hji51w : (IntKind.i64.wrap ((rd x5_1 1) + 1)) = ji51 := (i64_w _).trans hji51
                                  by_cases c52 : 0 ≤ (ji51)
                                  · rw [if_pos c52] at H
                                    have c52b0 := eq_true c52
                                    have c52b1 : decide (0 ≤ (ji51)) = true := decide_eq_true c52
                                    clear c52
                                    by_cases c53 : (ji51) ≤ (a0.size : Int)
                                    · rw [if_pos c53] at H
                                      have c53b0 := eq_true c53
                                      have c53b1 : decide ((ji51) ≤ (a0.size : Int)) = true := decide_eq_true c53
                                      clear c53
                                      have HC54 := Aside0.mk H
                                      clear H
                                      have p145 : 0 ≤ (1 : Int) := (by omega)
                                      have q145 : 1 < (x5_1.length : Int) := of_decide_eq_true (by first | (with_reducible assumption) | assumption)
                                      obtain ⟨ad145, e145, hx145_0⟩ := Kd.at_int (Kd.R_reads' HO_5.out).2.2 1 p145 q145
                                      obtain rfl : ad140 = ad145 := (by injection e145)
                                      (try simp only [show (1 : Int).toNat = 1 from rfl, Nat.reduceMul, Nat.reduceEqDiff, Go.Addr.add, ↓reduceIte] at hx145_0)
                                      have qi145 : (1 < x5_1.length) = True := eq_true (by omega)
                                      (try rw [show ((1 : Int)).toNat = 1 from rfl] at hx145_0)
                                      replace p145 := eq_true p145
                                      replace q145 := eq_true q145
                                      have c34b0z : decide (x8_3 < ((min (rd x5_1 1).toNat a0.size - ji21.toNat : Nat) : Int)) = false := by have h_ := c34b0; rw [ByteArray.size_extract] at h_; exact h_
                                      have c34b1z : (x8_3 < ((min (rd x5_1 1).toNat a0.size - ji21.toNat : Nat) : Int)) = False := eq_false (of_decide_eq_false c34b0z) -- b0z
                                      have c34b2z : (((min (rd x5_1 1).toNat a0.size - ji21.toNat : Nat) : Int) ≤ x8_3) = True := eq_true (Int.not_lt.1 (of_decide_eq_false c34b0z)) -- b0z
                                      go_upto_region 18 with (fail)
                                      clear c34b0z c34b1z c34b2z
                                      generalize a0.extract ((ji51) : Int).toNat a0.size = V9 at HC54 ⊢
                                      go_cut [105] (fun v105 wc => ∃ (kq : Nat) (x105_53 : Bool), v105 = .bool x105_53 ∧ Aside0 (doorkeeperref10_Parse.j3 kq a0 x5_1 (a0.extract ((ji21) : Int).toNat ((rd x5_1 1) : Int).toNat) V9 x105_53 = some (r1, r2, r3, r4, r5)) ∧ Aside0 (kq ≤ k3) ∧ Aside0 (Kd.R (Kd.int .i64) 3 wc w.heap.size (fun _ => True) (.slice (some ad140) x5_1.length co33) x5_1) ∧ Aside0 (wc.heap[gb134]? = some (.cells #[.string x135000_3, .string x135001_3, .int .i64 x135002_3] 29 (0, 0))) ∧ Aside0 (Below w.heap.size w wc))
                                      case first =>
                                        have H := HC54.out
                                        clear HC54
                                        by_cases c55 : (V9.size : Int) = 8
                                        · rw [if_pos c55] at H
                                          have c55b0 : ((V9.size : Int) == 8) = true := beq_iff_eq.mpr c55
                                          have c55b1 : ((V9.size : Int) != 8) = false := bne_eq_false_iff_eq.mpr c55
                                          clear c55
                                          (first | rw [c55b0] | (simp only [i64_w, i32_w]; rw [c55b0]) | skip)
                                          by_cases c56 : 0 ≤ 5
                                          · rw [if_pos c56] at H
                                            have c56b0 := eq_true c56
                                            have c56b1 : decide (0 ≤ 5) = true := decide_eq_true c56
                                            clear c56
                                            by_cases c57 : 5 ≤ (V9.size : Int)
                                            · rw [if_pos c57] at H
                                              have c57b0 := eq_true c57
                                              have c57b1 : decide (5 ≤ (V9.size : Int)) = true := decide_eq_true c57
                                              clear c57
                                              by_cases c58 : (V9.extract 0 5).toList = ([72, 84, 84, 80, 47] : List UInt8)
                                              · rw [if_pos c58] at H
                                                have c58b0 : ((V9.extract 0 5).toList == ([72, 84, 84, 80, 47] : List UInt8)) = true := beq_iff_eq.mpr c58
                                                have c58b1 : ((V9.extract 0 5).toList != ([72, 84, 84, 80, 47] : List UInt8)) = false := bne_eq_false_iff_eq.mpr c58
                                                clear c58
                                                by_cases c59 : 5 < (V9.size : Int)
                                                · rw [if_pos c59] at H
                                                  have c59b0 : decide (5 < (V9.size : Int)) = true := decide_eq_true c59
                                                  have c59b1 : decide (5 < V9.size) = true := decide_eq_true (by omega)
                                                  clear c59
                                                  replace H := Option.bind_eq_some_iff.mp H
                                                  obtain ⟨t146, A610, H⟩ := H
                                                  replace H : (if t146 = true then (if 6 < (V9.size : Int) then (if (bt V9 6) = 46 then (if 7 < (V9.size : Int) then ((doorkeeperref02_Class.f k3 (bt V9 7) 1).bind fun t147 => (doorkeeperref10_Parse.j3 k3 a0 x5_1 (a0.extract ((ji21) : Int).toNat ((rd x5_1 1) : Int).toNat) V9 (!t147))) else (none)) else (doorkeeperref10_Parse.j3 k3 a0 x5_1 (a0.extract ((ji21) : Int).toNat ((rd x5_1 1) : Int).toNat) V9 true)) else (none)) else (doorkeeperref10_Parse.j3 k3 a0 x5_1 (a0.extract ((ji21) : Int).toNat ((rd x5_1 1) : Int).toNat) V9 true)) = some (r1, r2, r3, r4, r5) := H
                                                  have A61 := Aside0.mk A610
                                                  clear A610
                                                  by_cases c62 : t146 = true
                                                  · subst c62
                                                    have H1 : (if 6 < (V9.size : Int) then (if (bt V9 6) = 46 then (if 7 < (V9.size : Int) then ((doorkeeperref02_Class.f k3 (bt V9 7) 1).bind fun t147 => (doorkeeperref10_Parse.j3 k3 a0 x5_1 (a0.extract ((ji21) : Int).toNat ((rd x5_1 1) : Int).toNat) V9 (!t147))) else (none)) else (doorkeeperref10_Parse.j3 k3 a0 x5_1 (a0.extract ((ji21) : Int).toNat ((rd x5_1 1) : Int).toNat) V9 true)) else (none)) = some (r1, r2, r3, r4, r5) := by rw [if_pos rfl] at H; exact H
                                                    clear H
                                                    have H := H1
                                                    clear H1
                                                    by_cases c63 : 6 < (V9.size : Int)
                                                    · rw [if_pos c63] at H
                                                      have c63b0 : decide (6 < (V9.size : Int)) = true := decide_eq_true c63
                                                      have c63b1 : decide (6 < V9.size) = true := decide_eq_true (by omega)
                                                      clear c63
                                                      by_cases c65 : (bt V9 6) = 46
                                                      · rw [if_pos c65] at H
                                                        have c65b0 : ((bt V9 6) == 46) = true := beq_iff_eq.mpr c65
                                                        have c65b1 : ((bt V9 6) != 46) = false := bne_eq_false_iff_eq.mpr c65
                                                        clear c65
                                                        by_cases c66 : 7 < (V9.size : Int)
                                                        · rw [if_pos c66] at H
                                                          have c66b0 : decide (7 < (V9.size : Int)) = true := decide_eq_true c66
                                                          have c66b1 : decide (7 < V9.size) = true := decide_eq_true (by omega)
                                                          clear c66
                                                          replace H := Option.bind_eq_some_iff.mp H
                                                          obtain ⟨t147, A680, H⟩ := H
                                                          replace H : (doorkeeperref10_Parse.j3 k3 a0 x5_1 (a0.extract ((ji21) : Int).toNat ((rd x5_1 1) : Int).toNat) V9 (!t147)) = some (r1, r2, r3, r4, r5) := H
                                                          have A68 := Aside0.mk A680
                                                          clear A680
                                                          have H' := Aside0.mk H
                                                          clear H
                                                          have p60 : 0 ≤ (5 : Int) := (by omega)
                                                          have q60 : 5 < V9.size := (by have : (5 : Int) < (V9.size : Int) := of_decide_eq_true (by first | (with_reducible assumption) | assumption); omega)
                                                          have hx60 : ∀ h : 5 < V9.size, ((V9[5]'h).toNat : Int) = bt V9 5 := bt_at V9 5
                                                          clear p60
                                                          have qi60 : (5 < (V9.size : Int)) = True := eq_true (of_decide_eq_true (by first | (with_reducible assumption) | assumption))
                                                          replace q60 := eq_true q60
                                                          go_wp2_with (first | (go_at_call 33; (with_reducible refine (doorkeeperref02_Class.calls k3 (bt V9 5) 1 true _ A61.out).mono ?_); rintro e w' ⟨rfl, ⟨nd, rfl⟩⟩; have p64 : 0 ≤ (6 : Int) := (by omega); have q64 : 6 < V9.size := (by have : (6 : Int) < (V9.size : Int) := of_decide_eq_true (by first | (with_reducible assumption) | assumption); omega); have hx64 : ∀ h : 6 < V9.size, ((V9[6]'h).toNat : Int) = bt V9 6 := bt_at V9 6; clear p64; have qi64 : (6 < (V9.size : Int)) = True := eq_true (of_decide_eq_true (by first | (with_reducible assumption) | assumption)); replace q64 := eq_true q64; have p67 : 0 ≤ (7 : Int) := (by omega); have q67 : 7 < V9.size := (by have : (7 : Int) < (V9.size : Int) := of_decide_eq_true (by first | (with_reducible assumption) | assumption); omega); have hx67 : ∀ h : 7 < V9.size, ((V9[7]'h).toNat : Int) = bt V9 7 := bt_at V9 7; clear p67; have qi67 : (7 < (V9.size : Int)) = True := eq_true (of_decide_eq_true (by first | (with_reducible assumption) | assumption)); replace q67 := eq_true q67) | (go_at_call 33; (with_reducible refine (doorkeeperref02_Class.calls k3 (bt V9 7) 1 t147 _ A68.out).mono ?_); rintro e w' ⟨rfl, ⟨nd, rfl⟩⟩))
                                                          go_meet
                                                          case rel => exact ⟨_, (!t147), (by first | rfl | (simp; done) | (simp [*]; done)), H', ⟨by have := HK1.out; have := HJ8.out; have := HK3.out; first | omega | exact Nat.le_refl _⟩, ⟨by (with_reducible repeat (first | apply Kd.R_alloc | apply Kd.R_drewN | apply Kd.R_drew)); exact HO_5.out⟩, ⟨by (with_reducible repeat (first | refine blk_drewN ?_ _ | refine blk_drew ?_ | refine blk_alloc ?_ _)); exact BK134.out⟩, ⟨by repeat (first | (with_reducible first | exact HB.out | apply below_alloc | apply pw_below_drewN | apply below_drew1 | refine below_set ?_ GE134.out) | exact HB.out)⟩⟩
                                                        · rw [if_neg c66] at H
                                                          exact absurd H (by simp)
                                                      · rw [if_neg c65] at H
                                                        have c65b0 : ((bt V9 6) == 46) = false := beq_eq_false_iff_ne.mpr c65
                                                        have c65b1 : ((bt V9 6) != 46) = true := bne_iff_ne.mpr c65
                                                        have H' := Aside0.mk H
                                                        clear H
                                                        have p60 : 0 ≤ (5 : Int) := (by omega)
                                                        have q60 : 5 < V9.size := (by have : (5 : Int) < (V9.size : Int) := of_decide_eq_true (by first | (with_reducible assumption) | assumption); omega)
                                                        have hx60 : ∀ h : 5 < V9.size, ((V9[5]'h).toNat : Int) = bt V9 5 := bt_at V9 5
                                                        clear p60
                                                        have qi60 : (5 < (V9.size : Int)) = True := eq_true (of_decide_eq_true (by first | (with_reducible assumption) | assumption))
                                                        replace q60 := eq_true q60
                                                        go_wp2_with (first | (go_at_call 33; (with_reducible refine (doorkeeperref02_Class.calls k3 (bt V9 5) 1 true _ A61.out).mono ?_); rintro e w' ⟨rfl, ⟨nd, rfl⟩⟩; have p64 : 0 ≤ (6 : Int) := (by omega); have q64 : 6 < V9.size := (by have : (6 : Int) < (V9.size : Int) := of_decide_eq_true (by first | (with_reducible assumption) | assumption); omega); have hx64 : ∀ h : 6 < V9.size, ((V9[6]'h).toNat : Int) = bt V9 6 := bt_at V9 6; clear p64; have qi64 : (6 < (V9.size : Int)) = True := eq_true (of_decide_eq_true (by first | (with_reducible assumption) | assumption)); replace q64 := eq_true q64))
                                                        go_meet
                                                        case rel => exact ⟨_, (true), (by first | rfl | (simp; done) | (simp [*]; done)), H', ⟨by have := HK1.out; have := HJ8.out; have := HK3.out; first | omega | exact Nat.le_refl _⟩, ⟨by (with_reducible repeat (first | apply Kd.R_alloc | apply Kd.R_drewN | apply Kd.R_drew)); exact HO_5.out⟩, ⟨by (with_reducible repeat (first | refine blk_drewN ?_ _ | refine blk_drew ?_ | refine blk_alloc ?_ _)); exact BK134.out⟩, ⟨by repeat (first | (with_reducible first | exact HB.out | apply below_alloc | apply pw_below_drewN | apply below_drew1 | refine below_set ?_ GE134.out) | exact HB.out)⟩⟩
                                                    · rw [if_neg c63] at H
                                                      exact absurd H (by simp)
                                                  · replace c62 := Bool.eq_false_iff.mpr c62
                                                    subst c62
                                                    have H1 : (doorkeeperref10_Parse.j3 k3 a0 x5_1 (a0.extract ((ji21) : Int).toNat ((rd x5_1 1) : Int).toNat) V9 true) = some (r1, r2, r3, r4, r5) := by rw [if_neg (show ¬ (false = true) by decide)] at H; exact H
                                                    clear H
                                                    have H := H1
                                                    clear H1
                                                    have H' := Aside0.mk H
                                                    clear H
                                                    have p60 : 0 ≤ (5 : Int) := (by omega)
                                                    have q60 : 5 < V9.size := (by have : (5 : Int) < (V9.size : Int) := of_decide_eq_true (by first | (with_reducible assumption) | assumption); omega)
                                                    have hx60 : ∀ h : 5 < V9.size, ((V9[5]'h).toNat : Int) = bt V9 5 := bt_at V9 5
                                                    clear p60
                                                    have qi60 : (5 < (V9.size : Int)) = True := eq_true (of_decide_eq_true (by first | (with_reducible assumption) | assumption))
                                                    replace q60 := eq_true q60
                                                    go_wp2_with (first | (go_at_call 33; (with_reducible refine (doorkeeperref02_Class.calls k3 (bt V9 5) 1 false _ A61.out).mono ?_); rintro e w' ⟨rfl, ⟨nd, rfl⟩⟩))
                                                    go_meet
                                                    case rel => exact ⟨_, (true), (by first | rfl | (simp; done) | (simp [*]; done)), H', ⟨by have := HK1.out; have := HJ8.out; have := HK3.out; first | omega | exact Nat.le_refl _⟩, ⟨by (with_reducible repeat (first | apply Kd.R_alloc | apply Kd.R_drewN | apply Kd.R_drew)); exact HO_5.out⟩, ⟨by (with_reducible repeat (first | refine blk_drewN ?_ _ | refine blk_drew ?_ | refine blk_alloc ?_ _)); exact BK134.out⟩, ⟨by repeat (first | (with_reducible first | exact HB.out | apply below_alloc | apply pw_below_drewN | apply below_drew1 | refine below_set ?_ GE134.out) | exact HB.out)⟩⟩
                                                · rw [if_neg c59] at H
                                                  exact absurd H (by simp)
                                              · rw [if_neg c58] at H
                                                have c58b0 : ((V9.extract 0 5).toList == ([72, 84, 84, 80, 47] : List UInt8)) = false := beq_eq_false_iff_ne.mpr c58
                                                have c58b1 : ((V9.extract 0 5).toList != ([72, 84, 84, 80, 47] : List UInt8)) = true := bne_iff_ne.mpr c58
                                                have H' := Aside0.mk H
                                                clear H
                                                go_wp2
                                                go_meet
                                                case rel => exact ⟨_, (true), (by first | rfl | (simp; done) | (simp [*]; done)), H', ⟨by have := HK1.out; have := HJ8.out; have := HK3.out; first | omega | exact Nat.le_refl _⟩, ⟨by (with_reducible repeat (first | apply Kd.R_alloc | apply Kd.R_drewN | apply Kd.R_drew)); exact HO_5.out⟩, ⟨by (with_reducible repeat (first | refine blk_drewN ?_ _ | refine blk_drew ?_ | refine blk_alloc ?_ _)); exact BK134.out⟩, ⟨by repeat (first | (with_reducible first | exact HB.out | apply below_alloc | apply pw_below_drewN | apply below_drew1 | refine below_set ?_ GE134.out) | exact HB.out)⟩⟩
                                            · rw [if_neg c57] at H
                                              exact absurd H (by simp)
                                          · rw [if_neg c56] at H
                                            exact absurd H (by simp)
                                        · rw [if_neg c55] at H
                                          have c55b0 : ((V9.size : Int) == 8) = false := beq_eq_false_iff_ne.mpr c55
                                          have c55b1 : ((V9.size : Int) != 8) = true := bne_iff_ne.mpr c55
                                          (first | rw [c55b0] | (simp only [i64_w, i32_w]; rw [c55b0]) | skip)
                                          have H' := Aside0.mk H
                                          clear H
                                          go_wp2
                                          go_meet
                                          case rel => exact ⟨_, (true), (by first | rfl | (simp; done) | (simp [*]; done)), H', ⟨by have := HK1.out; have := HJ8.out; have := HK3.out; first | omega | exact Nat.le_refl _⟩, ⟨by (with_reducible repeat (first | apply Kd.R_alloc | apply Kd.R_drewN | apply Kd.R_drew)); exact HO_5.out⟩, ⟨by (with_reducible repeat (first | refine blk_drewN ?_ _ | refine blk_drew ?_ | refine blk_alloc ?_ _)); exact BK134.out⟩, ⟨by repeat (first | (with_reducible first | exact HB.out | apply below_alloc | apply pw_below_drewN | apply below_drew1 | refine below_set ?_ GE134.out) | exact HB.out)⟩⟩
                                      case rest =>
                                        clear HC54
                                        try clear c1
                                        try clear p1
                                        try clear q1
                                        try clear hx1
                                        try clear qi1
                                        try clear c2
                                        try clear p2
                                        try clear c3
                                        try clear c3b0
                                        try clear p3
                                        try clear q3
                                        try clear hx3
                                        try clear c4
                                        try clear c4b0
                                        try clear p4
                                        try clear q4
                                        try clear hx4
                                        try clear c5
                                        try clear p5
                                        try clear q5
                                        try clear hx5
                                        try clear c6
                                        try clear c6b0
                                        try clear c6b1
                                        try clear p6
                                        try clear q6
                                        try clear hx6
                                        try clear qi6
                                        try clear c7
                                        try clear c10
                                        try clear c10b0
                                        try clear c10b1
                                        try clear c11
                                        try clear c11b0
                                        try clear c11b1
                                        try clear c12
                                        try clear c12b0
                                        try clear c12b1
                                        try clear c13
                                        try clear c13b0
                                        try clear c13b1
                                        try clear p13
                                        try clear q13
                                        try clear hx13
                                        try clear qi13
                                        try clear p14
                                        try clear q14
                                        try clear hx14
                                        try clear qi14
                                        try clear c17
                                        try clear c19
                                        try clear c19b0
                                        try clear c19b1
                                        try clear c20
                                        try clear c20b0
                                        try clear c20b1
                                        try clear c22
                                        try clear c22b0
                                        try clear c22b1
                                        try clear c23
                                        try clear c23b0
                                        try clear c23b1
                                        try clear c24
                                        try clear c24b0
                                        try clear c24b1
                                        try clear c25
                                        try clear c25b0
                                        try clear c25b1
                                        try clear c34
                                        try clear c34b0
                                        try clear c35
                                        try clear c35b0
                                        try clear p36
                                        try clear q36
                                        try clear hx36
                                        try clear c37
                                        try clear c37b0
                                        try clear c38
                                        try clear c38b0
                                        try clear c38b1
                                        try clear p43
                                        try clear q43
                                        try clear hx43
                                        try clear c44
                                        try clear c44b0
                                        try clear c45
                                        try clear c45b0
                                        try clear c45b1
                                        try clear c50
                                        try clear c50b0
                                        try clear c50b1
                                        try clear c52
                                        try clear c52b0
                                        try clear c52b1
                                        try clear c53
                                        try clear c53b0
                                        try clear c53b1
                                        try clear c55
                                        try clear c55b0
                                        try clear c55b1
                                        try clear c56
                                        try clear c56b0
                                        try clear c56b1
                                        try clear c57
                                        try clear c57b0
                                        try clear c57b1
                                        try clear c58
                                        try clear c58b0
                                        try clear c58b1
                                        try clear c59
                                        try clear c59b0
                                        try clear c59b1
                                        try clear p60
                                        try clear q60
                                        try clear hx60
                                        try clear qi60
                                        try clear c62
                                        try clear c63
                                        try clear c63b0
                                        try clear c63b1
                                        try clear p64
                                        try clear q64
                                        try clear hx64
                                        try clear qi64
                                        try clear c65
                                        try clear c65b0
                                        try clear c65b1
                                        try clear c66
                                        try clear c66b0
                                        try clear c66b1
                                        try clear p67
                                        try clear q67
                                        try clear hx67
                                        try clear qi67
                                        try clear hcz18_0
                                        try clear hcz18_1
                                        try clear hcz18_2
                                        try clear hfz18_0
                                        try clear hfz18_1
                                        try clear hfz18_2
                                        try clear hx138_0
                                        try clear hx140_0
                                        try clear hx141_0
                                        try clear hx142_0
                                        try clear hx143_0
                                        try clear hx144_0
                                        try clear hx145_0
                                        try clear p1
                                        try clear p13
                                        try clear p138
                                        try clear p14
                                        try clear p140
                                        try clear p141
                                        try clear p142
                                        try clear p143
                                        try clear p144
                                        try clear p145
                                        try clear p2
                                        try clear p36
                                        try clear p43
                                        try clear p5
                                        try clear p6
                                        try clear p60
                                        try clear p64
                                        try clear p67
                                        try clear q1
                                        try clear q13
                                        try clear q138
                                        try clear q14
                                        try clear q140
                                        try clear q141
                                        try clear q142
                                        try clear q143
                                        try clear q144
                                        try clear q145
                                        try clear q36
                                        try clear q43
                                        try clear q5
                                        try clear q60
                                        try clear q64
                                        try clear q67
                                        obtain ⟨kq, x105_53, rfl, HA, HJ53, HO_5, BK134, HB⟩ := hcut
                                        cases kq with
                                        | zero => exact absurd HA.out (by simp [doorkeeperref10_Parse.j3])
                                        | succ kj53 =>
                                          have H := HA.out
                                          clear HA
                                          simp only [doorkeeperref10_Parse.j3] at H
                                          by_cases c69 : x105_53 = true
                                          · subst c69
                                            have H1 : (if 1 < (x5_1.length : Int) then (some ((⟨#[]⟩ : ByteArray), (⟨#[]⟩ : ByteArray), 0, 400, wrap64 ((rd x5_1 1) + 1))) else (none)) = some (r1, r2, r3, r4, r5) := by rw [if_pos rfl] at H; exact H
                                            clear H
                                            have H := H1
                                            clear H1
                                            by_cases c70 : 1 < (x5_1.length : Int)
                                            · rw [if_pos c70] at H
                                              have c70b0 : decide (1 < (x5_1.length : Int)) = true := decide_eq_true c70
                                              have c70b1 : decide (1 < x5_1.length) = true := decide_eq_true (by omega)
                                              clear c70
                                              simp only [Option.some.injEq, Prod.mk.injEq] at H
                                              obtain ⟨rfl, rfl, rfl, rfl, rfl⟩ := H
                                              try go_wp2
                                              have n0_ := Aside0.mk (Kd.R_drew HO_5.out)
                                              have n1_ := Aside0.mk (blk_drew BK134.out)
                                              have n2_ := Aside0.mk (below_drew1 HB.out)
                                              clear HO_5
                                              clear BK134
                                              clear HB
                                              have HO_5 := n0_
                                              have BK134 := n1_
                                              have HB := n2_
                                              clear n0_ n1_ n2_
                                              have p148 : 0 ≤ (1 : Int) := (by omega)
                                              have q148 : 1 < (x5_1.length : Int) := of_decide_eq_true (by first | (with_reducible assumption) | assumption)
                                              obtain ⟨ad148, e148, hx148_0⟩ := Kd.at_int (Kd.R_reads' HO_5.out).2.2 1 p148 q148
                                              obtain rfl : ad140 = ad148 := (by injection e148)
                                              (try simp only [show (1 : Int).toNat = 1 from rfl, Nat.reduceMul, Nat.reduceEqDiff, Go.Addr.add, ↓reduceIte] at hx148_0)
                                              have qi148 : (1 < x5_1.length) = True := eq_true (by omega)
                                              (try rw [show ((1 : Int)).toNat = 1 from rfl] at hx148_0)
                                              replace p148 := eq_true p148
                                              replace q148 := eq_true q148
                                              refine start_ (n := 8) (S := fun w' => w'.cell? ⟨ad140.block, ad140.off + 1, none⟩ = some (.int .i64 (rd x5_1 1))) (ds := []) #[false, false, false, false, false, false, false, false] (by kernel_rfl) rfl rfl (hx148_0) (fun hHeld => ?_); refine with_tabW doorkeeperref10_Parse.tab19 doorkeeperref10_Parse.bits19 (fun HT_ HW_ => ?_)
                                              generalize wc.drew = w71 at HO_5 BK134 HB hx148_0 hHeld ⊢
                                              refine pure_ (i := 0) (N := some 106) (v := ?_) (a' := ?_) #[true, false, false, false, false, false, false, false] rfl rfl (any_of HT_.out (by kernel_rfl)) (fun _ _ _ h => h) (Or.inl ⟨by rfl, ?_⟩) ?_ ?_
                                              rotate_left
                                              · intro w'
                                                go_simp
                                                with_reducible rfl
                                              rotate_left
                                              · simp only [Act.put, List.setIfInBounds_toArray, List.set_cons_zero, List.set_cons_succ, i64_w, i32_w]
                                                rfl
                                              refine pure_ (i := 1) (N := some 107) (v := ?_) (a' := ?_) #[true, true, false, false, false, false, false, false] rfl rfl (any_of HT_.out (by kernel_rfl)) (fun _ _ _ h => h) (Or.inl ⟨by rfl, ?_⟩) ?_ ?_
                                              rotate_left
                                              · intro w'
                                                go_simp
                                                with_reducible rfl
                                              rotate_left
                                              · simp only [Act.put, List.setIfInBounds_toArray, List.set_cons_zero, List.set_cons_succ, i64_w, i32_w]
                                                rfl
                                              refine pure_ (i := 2) (N := some 108) (v := ?_) (a' := ?_) #[true, true, true, false, false, false, false, false] rfl rfl (any_of HT_.out (by kernel_rfl)) (fun _ _ _ h => h) (Or.inl ⟨by rfl, ?_⟩) ?_ ?_
                                              rotate_left
                                              · intro w'
                                                go_simp
                                                with_reducible rfl
                                              rotate_left
                                              · simp only [Act.put, List.setIfInBounds_toArray, List.set_cons_zero, List.set_cons_succ, i64_w, i32_w]
                                                rfl
                                              refine take_ (i := 3) (N := some 109) (v := ?_) (a' := ?_) #[true, true, true, true, false, false, false, false] rfl rfl (take_ofW HT_.out HW_.out (by kernel_rfl)) (fun _ _ _ h => h) (Or.inl ⟨by rfl, ?_⟩) hHeld ?_ ?_
                                              rotate_left
                                              · intro w' s0
                                                go_simp
                                                with_reducible rfl
                                              rotate_left
                                              · simp only [Act.put, List.setIfInBounds_toArray, List.set_cons_zero, List.set_cons_succ, i64_w, i32_w]
                                                rfl
                                              refine pure_ (i := 4) (N := some 110) (v := ?_) (a' := ?_) #[true, true, true, true, true, false, false, false] rfl rfl (any_of HT_.out (by kernel_rfl)) (fun _ _ _ h => h) (Or.inl ⟨by rfl, ?_⟩) ?_ ?_
                                              rotate_left
                                              · intro w'
                                                go_simp
                                                with_reducible rfl
                                              rotate_left
                                              · simp only [Act.put, List.setIfInBounds_toArray, List.set_cons_zero, List.set_cons_succ, i64_w, i32_w]
                                                rfl
                                              refine one_ (i := 5) (N := none) #[true, true, true, true, true, true, false, false] rfl rfl (one_of HT_.out (by kernel_rfl)) (by decide) (fun K hK => ?_)
                                              have hs72 : w71.cell? ⟨gb134, 0, none⟩ = some (.string x135000_3) := (blk_cell BK134.out 0).trans rfl
                                              have hfs72 := blk_frozen BK134.out 0
                                              have hs73 : w71.cell? ⟨gb134, 1, none⟩ = some (.string x135001_3) := (blk_cell BK134.out 1).trans rfl
                                              have hfs73 := blk_frozen BK134.out 1
                                              have hs74 : w71.cell? ⟨gb134, 2, none⟩ = some (.int .i64 x135002_3) := (blk_cell BK134.out 2).trans rfl
                                              have hfs74 := blk_frozen BK134.out 2
                                              refine skip_ (w1 := ?_) (by rfl) rfl ?_ ?_
                                              rotate_left
                                              · go_simp
                                                rfl
                                              have hbn_ : (⟨ad140.block, ad140.off + 1, none⟩ : Go.Addr).block ≠ gb134 := by
                                                show ad140.block ≠ gb134
                                                exact Kd.own_blk (Kd.R_ne HO_5.out BK134.out (by decide))
                                              refine hK.out _ _ ((cell_far (a := ⟨ad140.block, ad140.off + 1, none⟩) (p := ⟨gb134, _, none⟩) hbn_ _).trans ((cell_far (a := ⟨ad140.block, ad140.off + 1, none⟩) (p := ⟨gb134, _, none⟩) hbn_ _).trans ((cell_far (a := ⟨ad140.block, ad140.off + 1, none⟩) (p := ⟨gb134, _, none⟩) hbn_ _).trans hHeld))) (fun hHeld => ?_)
                                              clear hbn_
                                              clear hK K
                                              refine pure_ (i := 6) (N := some 3) (v := ?_) (a' := ?_) #[true, true, true, true, true, true, true, false] rfl rfl (any_of HT_.out (by kernel_rfl)) (fun _ _ _ h => h) (Or.inl ⟨by rfl, ?_⟩) ?_ ?_
                                              rotate_left
                                              · intro w'
                                                go_simp
                                                with_reducible rfl
                                              rotate_left
                                              · simp only [Act.put, List.setIfInBounds_toArray, List.set_cons_zero, List.set_cons_succ, i64_w, i32_w]
                                                rfl
                                              refine pure_ (i := 7) (N := some 4) (v := ?_) (a' := ?_) #[true, true, true, true, true, true, true, true] rfl rfl (any_of HT_.out (by kernel_rfl)) (fun _ _ _ h => h) (Or.inl ⟨by rfl, ?_⟩) ?_ ?_
                                              rotate_left
                                              · intro w'
                                                go_simp
                                                with_reducible rfl
                                              rotate_left
                                              · simp only [Act.put, List.setIfInBounds_toArray, List.set_cons_zero, List.set_cons_succ, i64_w, i32_w]
                                                rfl
                                              refine done_ (done_of HT_.out (by kernel_rfl)) ?_
                                              try go_wp2
                                              refine bodyPost_ret (results_ctt rfl _ _ gb134 29 #[.string (⟨#[]⟩ : ByteArray), .string (⟨#[]⟩ : ByteArray), .int .i64 0] (0, 0) _ rfl (by (with_reducible repeat (first | refine blk_drewN ?_ _ | refine blk_drew ?_ | refine blk_alloc ?_ _)); refine blk_put (cs := #[.string (⟨#[]⟩ : ByteArray), .string (⟨#[]⟩ : ByteArray), .int .i64 x135002_3]) ?_ 2 _ rfl; (with_reducible repeat (first | refine blk_drewN ?_ _ | refine blk_drew ?_ | refine blk_alloc ?_ _)); refine blk_put (cs := #[.string (⟨#[]⟩ : ByteArray), .string x135001_3, .int .i64 x135002_3]) ?_ 1 _ rfl; (with_reducible repeat (first | refine blk_drewN ?_ _ | refine blk_drew ?_ | refine blk_alloc ?_ _)); refine blk_put (cs := #[.string x135000_3, .string x135001_3, .int .i64 x135002_3]) ?_ 0 _ rfl; (with_reducible repeat (first | refine blk_drewN ?_ _ | refine blk_drew ?_ | refine blk_alloc ?_ _)); exact BK134.out) Tryd.underlying29 rfl (by kernel_rfl)) rfl ?_
                                              exact ⟨by first | rfl | (simp [errW_none, errW_some] <;> rfl) | (simp only [← hji21, ← hji51]; first | rfl | (simp [errW_none, errW_some] <;> rfl)) | (simp [*, errW_none, errW_some] <;> rfl), by repeat (first | (with_reducible first | exact HB.out | apply below_alloc | apply pw_below_drewN | apply below_drew1 | refine below_set ?_ GE134.out) | exact HB.out)⟩
                                            · rw [if_neg c70] at H
                                              exact absurd H (by simp)
                                          · replace c69 := Bool.eq_false_iff.mpr c69
                                            subst c69
                                            have H1 : (if V9.toList = ([72, 84, 84, 80, 47, 49, 46, 48] : List UInt8) then (doorkeeperref10_Parse.j4 kj53 a0 x5_1 (a0.extract ((ji21) : Int).toNat ((rd x5_1 1) : Int).toNat) V9 false) else (doorkeeperref10_Parse.j4 kj53 a0 x5_1 (a0.extract ((ji21) : Int).toNat ((rd x5_1 1) : Int).toNat) V9 (V9.toList != ([72, 84, 84, 80, 47, 49, 46, 49] : List UInt8)))) = some (r1, r2, r3, r4, r5) := by rw [if_neg (show ¬ (false = true) by decide)] at H; exact H
                                            clear H
                                            have H := H1
                                            clear H1
                                            have HC75 := Aside0.mk H
                                            clear H
                                            go_upto_region 20 with (fail)
                                            go_cut [116] (fun v116 wc => ∃ (kq : Nat) (x116_74 : Bool), v116 = .bool x116_74 ∧ Aside0 (doorkeeperref10_Parse.j4 kq a0 x5_1 (a0.extract ((ji21) : Int).toNat ((rd x5_1 1) : Int).toNat) V9 x116_74 = some (r1, r2, r3, r4, r5)) ∧ Aside0 (kq ≤ kj53) ∧ Aside0 (Kd.R (Kd.int .i64) 3 wc w.heap.size (fun _ => True) (.slice (some ad140) x5_1.length co33) x5_1) ∧ Aside0 (wc.heap[gb134]? = some (.cells #[.string x135000_3, .string x135001_3, .int .i64 x135002_3] 29 (0, 0))) ∧ Aside0 (Below w.heap.size w wc))
                                            case first =>
                                              have H := HC75.out
                                              clear HC75
                                              by_cases c76 : V9.toList = ([72, 84, 84, 80, 47, 49, 46, 48] : List UInt8)
                                              · rw [if_pos c76] at H
                                                have c76b0 : (V9.toList == ([72, 84, 84, 80, 47, 49, 46, 48] : List UInt8)) = true := beq_iff_eq.mpr c76
                                                have c76b1 : (V9.toList != ([72, 84, 84, 80, 47, 49, 46, 48] : List UInt8)) = false := bne_eq_false_iff_eq.mpr c76
                                                clear c76
                                                (first | rw [c76b0] | (simp only [i64_w, i32_w]; rw [c76b0]) | skip)
                                                have H' := Aside0.mk H
                                                clear H
                                                go_wp2
                                                go_meet
                                                case rel => exact ⟨_, (false), (by first | rfl | (simp; done) | (simp [*]; done)), H', ⟨by have := HK1.out; have := HJ8.out; have := HK3.out; have := HJ53.out; first | omega | exact Nat.le_refl _⟩, ⟨by (with_reducible repeat (first | apply Kd.R_alloc | apply Kd.R_drewN | apply Kd.R_drew)); exact HO_5.out⟩, ⟨by (with_reducible repeat (first | refine blk_drewN ?_ _ | refine blk_drew ?_ | refine blk_alloc ?_ _)); exact BK134.out⟩, ⟨by repeat (first | (with_reducible first | exact HB.out | apply below_alloc | apply pw_below_drewN | apply below_drew1 | refine below_set ?_ GE134.out) | exact HB.out)⟩⟩
                                              · rw [if_neg c76] at H
                                                have c76b0 : (V9.toList == ([72, 84, 84, 80, 47, 49, 46, 48] : List UInt8)) = false := beq_eq_false_iff_ne.mpr c76
                                                have c76b1 : (V9.toList != ([72, 84, 84, 80, 47, 49, 46, 48] : List UInt8)) = true := bne_iff_ne.mpr c76
                                                (first | rw [c76b0] | (simp only [i64_w, i32_w]; rw [c76b0]) | skip)
                                                have H' := Aside0.mk H
                                                clear H
                                                go_wp2
                                                go_meet
                                                case rel => exact ⟨_, ((V9.toList != ([72, 84, 84, 80, 47, 49, 46, 49] : List UInt8))), (by first | rfl | (simp; done) | (simp only [← hji51] <;> (first | rfl | simp)) | (simp [*]; done)), H', ⟨by have := HK1.out; have := HJ8.out; have := HK3.out; have := HJ53.out; first | omega | exact Nat.le_refl _⟩, ⟨by (with_reducible repeat (first | apply Kd.R_alloc | apply Kd.R_drewN | apply Kd.R_drew)); exact HO_5.out⟩, ⟨by (with_reducible repeat (first | refine blk_drewN ?_ _ | refine blk_drew ?_ | refine blk_alloc ?_ _)); exact BK134.out⟩, ⟨by repeat (first | (with_reducible first | exact HB.out | apply below_alloc | apply pw_below_drewN | apply below_drew1 | refine below_set ?_ GE134.out) | exact HB.out)⟩⟩
                                            case rest =>
                                              clear HC75
                                              try clear c1
                                              try clear p1
                                              try clear q1
                                              try clear hx1
                                              try clear qi1
                                              try clear c2
                                              try clear p2
                                              try clear c3
                                              try clear c3b0
                                              try clear p3
                                              try clear q3
                                              try clear hx3
                                              try clear c4
                                              try clear c4b0
                                              try clear p4
                                              try clear q4
                                              try clear hx4
                                              try clear c5
                                              try clear p5
                                              try clear q5
                                              try clear hx5
                                              try clear c6
                                              try clear c6b0
                                              try clear c6b1
                                              try clear p6
                                              try clear q6
                                              try clear hx6
                                              try clear qi6
                                              try clear c7
                                              try clear c10
                                              try clear c10b0
                                              try clear c10b1
                                              try clear c11
                                              try clear c11b0
                                              try clear c11b1
                                              try clear c12
                                              try clear c12b0
                                              try clear c12b1
                                              try clear c13
                                              try clear c13b0
                                              try clear c13b1
                                              try clear p13
                                              try clear q13
                                              try clear hx13
                                              try clear qi13
                                              try clear p14
                                              try clear q14
                                              try clear hx14
                                              try clear qi14
                                              try clear c17
                                              try clear c19
                                              try clear c19b0
                                              try clear c19b1
                                              try clear c20
                                              try clear c20b0
                                              try clear c20b1
                                              try clear c22
                                              try clear c22b0
                                              try clear c22b1
                                              try clear c23
                                              try clear c23b0
                                              try clear c23b1
                                              try clear c24
                                              try clear c24b0
                                              try clear c24b1
                                              try clear c25
                                              try clear c25b0
                                              try clear c25b1
                                              try clear c34
                                              try clear c34b0
                                              try clear c35
                                              try clear c35b0
                                              try clear p36
                                              try clear q36
                                              try clear hx36
                                              try clear c37
                                              try clear c37b0
                                              try clear c38
                                              try clear c38b0
                                              try clear c38b1
                                              try clear p43
                                              try clear q43
                                              try clear hx43
                                              try clear c44
                                              try clear c44b0
                                              try clear c45
                                              try clear c45b0
                                              try clear c45b1
                                              try clear c50
                                              try clear c50b0
                                              try clear c50b1
                                              try clear c52
                                              try clear c52b0
                                              try clear c52b1
                                              try clear c53
                                              try clear c53b0
                                              try clear c53b1
                                              try clear c55
                                              try clear c55b0
                                              try clear c55b1
                                              try clear c56
                                              try clear c56b0
                                              try clear c56b1
                                              try clear c57
                                              try clear c57b0
                                              try clear c57b1
                                              try clear c58
                                              try clear c58b0
                                              try clear c58b1
                                              try clear c59
                                              try clear c59b0
                                              try clear c59b1
                                              try clear p60
                                              try clear q60
                                              try clear hx60
                                              try clear qi60
                                              try clear c62
                                              try clear c63
                                              try clear c63b0
                                              try clear c63b1
                                              try clear p64
                                              try clear q64
                                              try clear hx64
                                              try clear qi64
                                              try clear c65
                                              try clear c65b0
                                              try clear c65b1
                                              try clear c66
                                              try clear c66b0
                                              try clear c66b1
                                              try clear p67
                                              try clear q67
                                              try clear hx67
                                              try clear qi67
                                              try clear c69
                                              try clear c70
                                              try clear c70b0
                                              try clear c70b1
                                              try clear c76
                                              try clear c76b0
                                              try clear c76b1
                                              try clear hcz18_0
                                              try clear hcz18_1
                                              try clear hcz18_2
                                              try clear hfz18_0
                                              try clear hfz18_1
                                              try clear hfz18_2
                                              try clear hx138_0
                                              try clear hx140_0
                                              try clear hx141_0
                                              try clear hx142_0
                                              try clear hx143_0
                                              try clear hx144_0
                                              try clear hx145_0
                                              try clear hx148_0
                                              try clear p1
                                              try clear p13
                                              try clear p138
                                              try clear p14
                                              try clear p140
                                              try clear p141
                                              try clear p142
                                              try clear p143
                                              try clear p144
                                              try clear p145
                                              try clear p148
                                              try clear p2
                                              try clear p3
                                              try clear p36
                                              try clear p4
                                              try clear p43
                                              try clear p5
                                              try clear p6
                                              try clear p60
                                              try clear p64
                                              try clear p67
                                              try clear q1
                                              try clear q13
                                              try clear q138
                                              try clear q14
                                              try clear q140
                                              try clear q141
                                              try clear q142
                                              try clear q143
                                              try clear q144
                                              try clear q145
                                              try clear q148
                                              try clear q3
                                              try clear q36
                                              try clear q4
                                              try clear q43
                                              try clear q5
                                              try clear q6
                                              try clear q60
                                              try clear q64
                                              try clear q67
                                              obtain ⟨kq, x116_74, rfl, HA, HJ74, HO_5, BK134, HB⟩ := hcut
                                              cases kq with
                                              | zero => exact absurd HA.out (by simp [doorkeeperref10_Parse.j4])
                                              | succ kj74 =>
                                                have H := HA.out
                                                clear HA
                                                simp only [doorkeeperref10_Parse.j4] at H
                                                by_cases c77 : x116_74 = true
                                                · subst c77
                                                  have H1 : (if 1 < (x5_1.length : Int) then (some ((⟨#[]⟩ : ByteArray), (⟨#[]⟩ : ByteArray), 0, 505, wrap64 ((rd x5_1 1) + 1))) else (none)) = some (r1, r2, r3, r4, r5) := by rw [if_pos rfl] at H; exact H
                                                  clear H
                                                  have H := H1
                                                  clear H1
                                                  by_cases c78 : 1 < (x5_1.length : Int)
                                                  · rw [if_pos c78] at H
                                                    have c78b0 : decide (1 < (x5_1.length : Int)) = true := decide_eq_true c78
                                                    have c78b1 : decide (1 < x5_1.length) = true := decide_eq_true (by omega)
                                                    clear c78
                                                    simp only [Option.some.injEq, Prod.mk.injEq] at H
                                                    obtain ⟨rfl, rfl, rfl, rfl, rfl⟩ := H
                                                    try go_wp2
                                                    have n0_ := Aside0.mk (Kd.R_drew HO_5.out)
                                                    have n1_ := Aside0.mk (blk_drew BK134.out)
                                                    have n2_ := Aside0.mk (below_drew1 HB.out)
                                                    clear HO_5
                                                    clear BK134
                                                    clear HB
                                                    have HO_5 := n0_
                                                    have BK134 := n1_
                                                    have HB := n2_
                                                    clear n0_ n1_ n2_
                                                    have p149 : 0 ≤ (1 : Int) := (by omega)
                                                    have q149 : 1 < (x5_1.length : Int) := of_decide_eq_true (by first | (with_reducible assumption) | assumption)
                                                    obtain ⟨ad149, e149, hx149_0⟩ := Kd.at_int (Kd.R_reads' HO_5.out).2.2 1 p149 q149
                                                    obtain rfl : ad140 = ad149 := (by injection e149)
                                                    (try simp only [show (1 : Int).toNat = 1 from rfl, Nat.reduceMul, Nat.reduceEqDiff, Go.Addr.add, ↓reduceIte] at hx149_0)
                                                    have qi149 : (1 < x5_1.length) = True := eq_true (by omega)
                                                    (try rw [show ((1 : Int)).toNat = 1 from rfl] at hx149_0)
                                                    replace p149 := eq_true p149
                                                    replace q149 := eq_true q149
                                                    refine start_ (n := 8) (S := fun w' => w'.cell? ⟨ad140.block, ad140.off + 1, none⟩ = some (.int .i64 (rd x5_1 1))) (ds := []) #[false, false, false, false, false, false, false, false] (by kernel_rfl) rfl rfl (hx149_0) (fun hHeld => ?_); refine with_tabW doorkeeperref10_Parse.tab21 doorkeeperref10_Parse.bits21 (fun HT_ HW_ => ?_)
                                                    generalize wc.drew = w79 at HO_5 BK134 HB hx149_0 hHeld ⊢
                                                    refine pure_ (i := 0) (N := some 117) (v := ?_) (a' := ?_) #[true, false, false, false, false, false, false, false] rfl rfl (any_of HT_.out (by kernel_rfl)) (fun _ _ _ h => h) (Or.inl ⟨by rfl, ?_⟩) ?_ ?_
                                                    rotate_left
                                                    · intro w'
                                                      go_simp
                                                      with_reducible rfl
                                                    rotate_left
                                                    · simp only [Act.put, List.setIfInBounds_toArray, List.set_cons_zero, List.set_cons_succ, i64_w, i32_w]
                                                      rfl
                                                    refine pure_ (i := 1) (N := some 118) (v := ?_) (a' := ?_) #[true, true, false, false, false, false, false, false] rfl rfl (any_of HT_.out (by kernel_rfl)) (fun _ _ _ h => h) (Or.inl ⟨by rfl, ?_⟩) ?_ ?_
                                                    rotate_left
                                                    · intro w'
                                                      go_simp
                                                      with_reducible rfl
                                                    rotate_left
                                                    · simp only [Act.put, List.setIfInBounds_toArray, List.set_cons_zero, List.set_cons_succ, i64_w, i32_w]
                                                      rfl
                                                    refine pure_ (i := 2) (N := some 119) (v := ?_) (a' := ?_) #[true, true, true, false, false, false, false, false] rfl rfl (any_of HT_.out (by kernel_rfl)) (fun _ _ _ h => h) (Or.inl ⟨by rfl, ?_⟩) ?_ ?_
                                                    rotate_left
                                                    · intro w'
                                                      go_simp
                                                      with_reducible rfl
                                                    rotate_left
                                                    · simp only [Act.put, List.setIfInBounds_toArray, List.set_cons_zero, List.set_cons_succ, i64_w, i32_w]
                                                      rfl
                                                    refine take_ (i := 3) (N := some 120) (v := ?_) (a' := ?_) #[true, true, true, true, false, false, false, false] rfl rfl (take_ofW HT_.out HW_.out (by kernel_rfl)) (fun _ _ _ h => h) (Or.inl ⟨by rfl, ?_⟩) hHeld ?_ ?_
                                                    rotate_left
                                                    · intro w' s0
                                                      go_simp
                                                      with_reducible rfl
                                                    rotate_left
                                                    · simp only [Act.put, List.setIfInBounds_toArray, List.set_cons_zero, List.set_cons_succ, i64_w, i32_w]
                                                      rfl
                                                    refine pure_ (i := 4) (N := some 121) (v := ?_) (a' := ?_) #[true, true, true, true, true, false, false, false] rfl rfl (any_of HT_.out (by kernel_rfl)) (fun _ _ _ h => h) (Or.inl ⟨by rfl, ?_⟩) ?_ ?_
                                                    rotate_left
                                                    · intro w'
                                                      go_simp
                                                      with_reducible rfl
                                                    rotate_left
                                                    · simp only [Act.put, List.setIfInBounds_toArray, List.set_cons_zero, List.set_cons_succ, i64_w, i32_w]
                                                      rfl
                                                    refine one_ (i := 5) (N := none) #[true, true, true, true, true, true, false, false] rfl rfl (one_of HT_.out (by kernel_rfl)) (by decide) (fun K hK => ?_)
                                                    have hs80 : w79.cell? ⟨gb134, 0, none⟩ = some (.string x135000_3) := (blk_cell BK134.out 0).trans rfl
                                                    have hfs80 := blk_frozen BK134.out 0
                                                    have hs81 : w79.cell? ⟨gb134, 1, none⟩ = some (.string x135001_3) := (blk_cell BK134.out 1).trans rfl
                                                    have hfs81 := blk_frozen BK134.out 1
                                                    have hs82 : w79.cell? ⟨gb134, 2, none⟩ = some (.int .i64 x135002_3) := (blk_cell BK134.out 2).trans rfl
                                                    have hfs82 := blk_frozen BK134.out 2
                                                    refine skip_ (w1 := ?_) (by rfl) rfl ?_ ?_
                                                    rotate_left
                                                    · go_simp
                                                      rfl
                                                    have hbn_ : (⟨ad140.block, ad140.off + 1, none⟩ : Go.Addr).block ≠ gb134 := by
                                                      show ad140.block ≠ gb134
                                                      exact Kd.own_blk (Kd.R_ne HO_5.out BK134.out (by decide))
                                                    refine hK.out _ _ ((cell_far (a := ⟨ad140.block, ad140.off + 1, none⟩) (p := ⟨gb134, _, none⟩) hbn_ _).trans ((cell_far (a := ⟨ad140.block, ad140.off + 1, none⟩) (p := ⟨gb134, _, none⟩) hbn_ _).trans ((cell_far (a := ⟨ad140.block, ad140.off + 1, none⟩) (p := ⟨gb134, _, none⟩) hbn_ _).trans hHeld))) (fun hHeld => ?_)
                                                    clear hbn_
                                                    clear hK K
                                                    refine pure_ (i := 6) (N := some 3) (v := ?_) (a' := ?_) #[true, true, true, true, true, true, true, false] rfl rfl (any_of HT_.out (by kernel_rfl)) (fun _ _ _ h => h) (Or.inl ⟨by rfl, ?_⟩) ?_ ?_
                                                    rotate_left
                                                    · intro w'
                                                      go_simp
                                                      with_reducible rfl
                                                    rotate_left
                                                    · simp only [Act.put, List.setIfInBounds_toArray, List.set_cons_zero, List.set_cons_succ, i64_w, i32_w]
                                                      rfl
                                                    refine pure_ (i := 7) (N := some 4) (v := ?_) (a' := ?_) #[true, true, true, true, true, true, true, true] rfl rfl (any_of HT_.out (by kernel_rfl)) (fun _ _ _ h => h) (Or.inl ⟨by rfl, ?_⟩) ?_ ?_
                                                    rotate_left
                                                    · intro w'
                                                      go_simp
                                                      with_reducible rfl
                                                    rotate_left
                                                    · simp only [Act.put, List.setIfInBounds_toArray, List.set_cons_zero, List.set_cons_succ, i64_w, i32_w]
                                                      rfl
                                                    refine done_ (done_of HT_.out (by kernel_rfl)) ?_
                                                    try go_wp2
                                                    refine bodyPost_ret (results_ctt rfl _ _ gb134 29 #[.string (⟨#[]⟩ : ByteArray), .string (⟨#[]⟩ : ByteArray), .int .i64 0] (0, 0) _ rfl (by (with_reducible repeat (first | refine blk_drewN ?_ _ | refine blk_drew ?_ | refine blk_alloc ?_ _)); refine blk_put (cs := #[.string (⟨#[]⟩ : ByteArray), .string (⟨#[]⟩ : ByteArray), .int .i64 x135002_3]) ?_ 2 _ rfl; (with_reducible repeat (first | refine blk_drewN ?_ _ | refine blk_drew ?_ | refine blk_alloc ?_ _)); refine blk_put (cs := #[.string (⟨#[]⟩ : ByteArray), .string x135001_3, .int .i64 x135002_3]) ?_ 1 _ rfl; (with_reducible repeat (first | refine blk_drewN ?_ _ | refine blk_drew ?_ | refine blk_alloc ?_ _)); refine blk_put (cs := #[.string x135000_3, .string x135001_3, .int .i64 x135002_3]) ?_ 0 _ rfl; (with_reducible repeat (first | refine blk_drewN ?_ _ | refine blk_drew ?_ | refine blk_alloc ?_ _)); exact BK134.out) Tryd.underlying29 rfl (by kernel_rfl)) rfl ?_
                                                    exact ⟨by first | rfl | (simp [errW_none, errW_some] <;> rfl) | (simp only [← hji21, ← hji51]; first | rfl | (simp [errW_none, errW_some] <;> rfl)) | (simp [*, errW_none, errW_some] <;> rfl), by repeat (first | (with_reducible first | exact HB.out | apply below_alloc | apply pw_below_drewN | apply below_drew1 | refine below_set ?_ GE134.out) | exact HB.out)⟩
                                                  · rw [if_neg c78] at H
                                                    exact absurd H (by simp)
                                                · replace c77 := Bool.eq_false_iff.mpr c77
                                                  subst c77
                                                  have H1 : (if 0 < (x5_1.length : Int) then (if 0 ≤ (rd x5_1 0) then (if (rd x5_1 0) ≤ (a0.size : Int) then (if V9.toList = ([72, 84, 84, 80, 47, 49, 46, 49] : List UInt8) then (some (a0.extract 0 ((rd x5_1 0) : Int).toNat, (a0.extract ((ji21) : Int).toNat ((rd x5_1 1) : Int).toNat), 1, 0, 0)) else (some (a0.extract 0 ((rd x5_1 0) : Int).toNat, (a0.extract ((ji21) : Int).toNat ((rd x5_1 1) : Int).toNat), 0, 0, 0))) else (none)) else (none)) else (none)) = some (r1, r2, r3, r4, r5) := by rw [if_neg (show ¬ (false = true) by decide)] at H; exact H
                                                  clear H
                                                  have H := H1
                                                  clear H1
                                                  by_cases c83 : 0 < (x5_1.length : Int)
                                                  · rw [if_pos c83] at H
                                                    have c83b0 : decide (0 < (x5_1.length : Int)) = true := decide_eq_true c83
                                                    have c83b1 : decide (0 < x5_1.length) = true := decide_eq_true (by omega)
                                                    clear c83
                                                    by_cases c84 : 0 ≤ (rd x5_1 0)
                                                    · rw [if_pos c84] at H
                                                      have c84b0 := eq_true c84
                                                      have c84b1 : decide (0 ≤ (rd x5_1 0)) = true := decide_eq_true c84
                                                      clear c84
                                                      by_cases c85 : (rd x5_1 0) ≤ (a0.size : Int)
                                                      · rw [if_pos c85] at H
                                                        have c85b0 := eq_true c85
                                                        have c85b1 : decide ((rd x5_1 0) ≤ (a0.size : Int)) = true := decide_eq_true c85
                                                        clear c85
                                                        by_cases c86 : V9.toList = ([72, 84, 84, 80, 47, 49, 46, 49] : List UInt8)
                                                        · rw [if_pos c86] at H
                                                          have c86b0 : (V9.toList == ([72, 84, 84, 80, 47, 49, 46, 49] : List UInt8)) = true := beq_iff_eq.mpr c86
                                                          have c86b1 : (V9.toList != ([72, 84, 84, 80, 47, 49, 46, 49] : List UInt8)) = false := bne_eq_false_iff_eq.mpr c86
                                                          clear c86
                                                          simp only [Option.some.injEq, Prod.mk.injEq] at H
                                                          obtain ⟨rfl, rfl, rfl, rfl, rfl⟩ := H
                                                          have p150 : 0 ≤ (0 : Int) := (by omega)
                                                          have q150 : 0 < (x5_1.length : Int) := of_decide_eq_true (by first | (with_reducible assumption) | assumption)
                                                          obtain ⟨ad150, e150, hx150_0⟩ := Kd.at_int (Kd.R_reads' HO_5.out).2.2 0 p150 q150
                                                          obtain rfl : ad140 = ad150 := (by injection e150)
                                                          have qi150 : (0 < x5_1.length) = True := eq_true (by omega)
                                                          (try rw [show ((0 : Int)).toNat = 0 from rfl] at hx150_0)
                                                          (try rw [Addr.add_zero'] at hx150_0)
                                                          replace p150 := eq_true p150
                                                          replace q150 := eq_true q150
                                                          go_wp2_with (first | ((with_reducible refine gate_dst (N := 10) rfl ?_); refine box_event ?hg (N := 10) ?hd (cs := #[.string (⟨#[]⟩ : ByteArray), .string (⟨#[]⟩ : ByteArray), .int .i64 0]) (t := 29) ?hr ?_; (case hd => rfl); (case hg => rfl); (case hr => first | (go_simp; done) | (go_simp; rfl)); intro gb151 hg w87 hbox hb; have n0_ := Aside0.mk (Kd.R_below (by (with_reducible repeat (first | apply Kd.R_alloc | apply Kd.R_drewN | apply Kd.R_drew)); exact HO_5.out) hb); have n1_ := Aside0.mk (blk_below (g := gb134) (o := .cells #[.string x135000_3, .string x135001_3, .int .i64 x135002_3] 29 (0, 0)) (by (with_reducible repeat (first | refine blk_drewN ?_ _ | refine blk_drew ?_ | refine blk_alloc ?_ _)); exact BK134.out) hb); have n2_ := Aside0.mk (below_step (by repeat (first | (with_reducible first | exact HB.out | apply below_alloc | apply pw_below_drewN | apply below_drew1 | refine below_set ?_ GE134.out) | exact HB.out)) hb); have n3_ := Aside0.mk (hbox); have n4_ := Aside0.mk ((by rw [hg]; exact (below_size (by repeat (first | (with_reducible first | exact HB.out | apply below_alloc | apply pw_below_drewN | apply below_drew1 | refine below_set ?_ GE134.out) | exact HB.out))) : w.heap.size ≤ gb151)); have n5_ := Aside0.mk ((by rw [hg]; exact (below_size (by repeat (first | (with_reducible first | exact HB.out | apply below_alloc | apply pw_below_drewN | apply below_drew1 | refine below_set ?_ GE134.out) | exact HB.out))) : w.heap.size ≤ gb151)); have n6_ := Aside0.mk ((by rw [hg]; exact Nat.ne_of_lt (blk_lt (g := gb134) (o := .cells #[.string x135000_3, .string x135001_3, .int .i64 x135002_3] 29 (0, 0)) (by (with_reducible repeat (first | refine blk_drewN ?_ _ | refine blk_drew ?_ | refine blk_alloc ?_ _)); exact BK134.out)) : gb134 ≠ gb151)); have n7_ := Aside0.mk ((by rw [hg]; exact Nat.ne_of_gt (blk_lt (g := gb134) (o := .cells #[.string x135000_3, .string x135001_3, .int .i64 x135002_3] 29 (0, 0)) (by (with_reducible repeat (first | refine blk_drewN ?_ _ | refine blk_drew ?_ | refine blk_alloc ?_ _)); exact BK134.out)) : gb151 ≠ gb134)); clear HO_5; clear BK134; clear HB; have HO_5 := n0_; have BK134 := n1_; have HB := n2_; have BK151 := n3_; have GW151 := n4_; have GE151 := n5_; have NB134_151 := n6_; have NB151_134 := n7_; clear n0_ n1_ n2_ n3_ n4_ n5_ n6_ n7_; clear hb hbox hg; have hnb88 := NB151_134.out; have hnc88 := NB134_151.out; have hcz89_0 : w87.cell? ⟨gb151, 0, none⟩ = some (.string (⟨#[]⟩ : ByteArray)) := (blk_cell BK151.out 0).trans rfl; have hcz89_1 : w87.cell? ⟨gb151, 1, none⟩ = some (.string (⟨#[]⟩ : ByteArray)) := (blk_cell BK151.out 1).trans rfl; have hcz89_2 : w87.cell? ⟨gb151, 2, none⟩ = some (.int .i64 0) := (blk_cell BK151.out 2).trans rfl; have hfz89_0 := blk_frozen BK151.out 0; have hfz89_1 := blk_frozen BK151.out 1; have hfz89_2 := blk_frozen BK151.out 2; have hcz90_0 : w87.cell? ⟨gb134, 0, none⟩ = some (.string x135000_3) := (blk_cell BK134.out 0).trans rfl; have hcz90_1 : w87.cell? ⟨gb134, 1, none⟩ = some (.string x135001_3) := (blk_cell BK134.out 1).trans rfl; have hcz90_2 : w87.cell? ⟨gb134, 2, none⟩ = some (.int .i64 x135002_3) := (blk_cell BK134.out 2).trans rfl; have hfz90_0 := blk_frozen BK134.out 0; have hfz90_1 := blk_frozen BK134.out 1; have hfz90_2 := blk_frozen BK134.out 2; have hcc_ : ∀ s_ t_ z_ y_ : Go.Value, ((((w87.setCell ⟨gb151, 0, none⟩ s_).setCell ⟨gb151, 1, none⟩ t_).setCell ⟨gb151, 2, none⟩ z_).setCell ⟨gb151, 2, none⟩ y_).cell? ⟨gb151, 2, none⟩ = some y_ := (fun s_ t_ z_ y_ => Go.World.cell?_setCell_same _ _ _ (Go.World.cell?_setCell_same _ _ _ ((Go.World.cell?_setCell_other _ _ _ _ (by simp)).trans ((Go.World.cell?_setCell_other _ _ _ _ (by simp)).trans hcz89_2))))))
                                                          refine bodyPost_ret (results_ctt rfl _ _ gb134 29 #[.string (a0.extract 0 ((rd x5_1 0) : Int).toNat), .string (a0.extract ((ji21) : Int).toNat ((rd x5_1 1) : Int).toNat), .int .i64 1] (0, 0) _ rfl (by (with_reducible repeat (first | refine blk_drewN ?_ _ | refine blk_drew ?_ | refine blk_alloc ?_ _)); refine blk_put (cs := #[.string (a0.extract 0 ((rd x5_1 0) : Int).toNat), .string (a0.extract ((ji21) : Int).toNat ((rd x5_1 1) : Int).toNat), .int .i64 x135002_3]) ?_ 2 _ rfl; (with_reducible repeat (first | refine blk_drewN ?_ _ | refine blk_drew ?_ | refine blk_alloc ?_ _)); refine blk_put (cs := #[.string (a0.extract 0 ((rd x5_1 0) : Int).toNat), .string x135001_3, .int .i64 x135002_3]) ?_ 1 _ rfl; (with_reducible repeat (first | refine blk_drewN ?_ _ | refine blk_drew ?_ | refine blk_alloc ?_ _)); refine blk_put (cs := #[.string x135000_3, .string x135001_3, .int .i64 x135002_3]) ?_ 0 _ rfl; (with_reducible repeat (first | refine blk_drewN ?_ _ | refine blk_drew ?_ | refine blk_alloc ?_ _)); refine blk_far ?_ NB134_151.out _; (with_reducible repeat (first | refine blk_drewN ?_ _ | refine blk_drew ?_ | refine blk_alloc ?_ _)); refine blk_far ?_ NB134_151.out _; (with_reducible repeat (first | refine blk_drewN ?_ _ | refine blk_drew ?_ | refine blk_alloc ?_ _)); refine blk_far ?_ NB134_151.out _; (with_reducible repeat (first | refine blk_drewN ?_ _ | refine blk_drew ?_ | refine blk_alloc ?_ _)); refine blk_far ?_ NB134_151.out _; (with_reducible repeat (first | refine blk_drewN ?_ _ | refine blk_drew ?_ | refine blk_alloc ?_ _)); exact BK134.out) Tryd.underlying29 rfl (by kernel_rfl)) rfl ?_
                                                          exact ⟨by first | rfl | (simp [errW_none, errW_some] <;> rfl) | (simp only [← hji21, ← hji51]; first | rfl | (simp [errW_none, errW_some] <;> rfl)) | (simp [*, errW_none, errW_some] <;> rfl), by repeat (first | (with_reducible first | exact HB.out | apply below_alloc | apply pw_below_drewN | apply below_drew1 | refine below_set ?_ GE134.out | refine below_set ?_ GE151.out) | exact HB.out)⟩
                                                        · rw [if_neg c86] at H
                                                          have c86b0 : (V9.toList == ([72, 84, 84, 80, 47, 49, 46, 49] : List UInt8)) = false := beq_eq_false_iff_ne.mpr c86
                                                          have c86b1 : (V9.toList != ([72, 84, 84, 80, 47, 49, 46, 49] : List UInt8)) = true := bne_iff_ne.mpr c86
                                                          simp only [Option.some.injEq, Prod.mk.injEq] at H
                                                          obtain ⟨rfl, rfl, rfl, rfl, rfl⟩ := H
                                                          have p150 : 0 ≤ (0 : Int) := (by omega)
                                                          have q150 : 0 < (x5_1.length : Int) := of_decide_eq_true (by first | (with_reducible assumption) | assumption)
                                                          obtain ⟨ad150, e150, hx150_0⟩ := Kd.at_int (Kd.R_reads' HO_5.out).2.2 0 p150 q150
                                                          obtain rfl : ad140 = ad150 := (by injection e150)
                                                          have qi150 : (0 < x5_1.length) = True := eq_true (by omega)
                                                          (try rw [show ((0 : Int)).toNat = 0 from rfl] at hx150_0)
                                                          (try rw [Addr.add_zero'] at hx150_0)
                                                          replace p150 := eq_true p150
                                                          replace q150 := eq_true q150
                                                          go_wp2_with (first | ((with_reducible refine gate_dst (N := 10) rfl ?_); refine box_event ?hg (N := 10) ?hd (cs := #[.string (⟨#[]⟩ : ByteArray), .string (⟨#[]⟩ : ByteArray), .int .i64 0]) (t := 29) ?hr ?_; (case hd => rfl); (case hg => rfl); (case hr => first | (go_simp; done) | (go_simp; rfl)); intro gb151 hg w91 hbox hb; have n0_ := Aside0.mk (Kd.R_below (by (with_reducible repeat (first | apply Kd.R_alloc | apply Kd.R_drewN | apply Kd.R_drew)); exact HO_5.out) hb); have n1_ := Aside0.mk (blk_below (g := gb134) (o := .cells #[.string x135000_3, .string x135001_3, .int .i64 x135002_3] 29 (0, 0)) (by (with_reducible repeat (first | refine blk_drewN ?_ _ | refine blk_drew ?_ | refine blk_alloc ?_ _)); exact BK134.out) hb); have n2_ := Aside0.mk (below_step (by repeat (first | (with_reducible first | exact HB.out | apply below_alloc | apply pw_below_drewN | apply below_drew1 | refine below_set ?_ GE134.out) | exact HB.out)) hb); have n3_ := Aside0.mk (hbox); have n4_ := Aside0.mk ((by rw [hg]; exact (below_size (by repeat (first | (with_reducible first | exact HB.out | apply below_alloc | apply pw_below_drewN | apply below_drew1 | refine below_set ?_ GE134.out) | exact HB.out))) : w.heap.size ≤ gb151)); have n5_ := Aside0.mk ((by rw [hg]; exact (below_size (by repeat (first | (with_reducible first | exact HB.out | apply below_alloc | apply pw_below_drewN | apply below_drew1 | refine below_set ?_ GE134.out) | exact HB.out))) : w.heap.size ≤ gb151)); have n6_ := Aside0.mk ((by rw [hg]; exact Nat.ne_of_lt (blk_lt (g := gb134) (o := .cells #[.string x135000_3, .string x135001_3, .int .i64 x135002_3] 29 (0, 0)) (by (with_reducible repeat (first | refine blk_drewN ?_ _ | refine blk_drew ?_ | refine blk_alloc ?_ _)); exact BK134.out)) : gb134 ≠ gb151)); have n7_ := Aside0.mk ((by rw [hg]; exact Nat.ne_of_gt (blk_lt (g := gb134) (o := .cells #[.string x135000_3, .string x135001_3, .int .i64 x135002_3] 29 (0, 0)) (by (with_reducible repeat (first | refine blk_drewN ?_ _ | refine blk_drew ?_ | refine blk_alloc ?_ _)); exact BK134.out)) : gb151 ≠ gb134)); clear HO_5; clear BK134; clear HB; have HO_5 := n0_; have BK134 := n1_; have HB := n2_; have BK151 := n3_; have GW151 := n4_; have GE151 := n5_; have NB134_151 := n6_; have NB151_134 := n7_; clear n0_ n1_ n2_ n3_ n4_ n5_ n6_ n7_; clear hb hbox hg; have hnb92 := NB151_134.out; have hnc92 := NB134_151.out; have hcz93_0 : w91.cell? ⟨gb151, 0, none⟩ = some (.string (⟨#[]⟩ : ByteArray)) := (blk_cell BK151.out 0).trans rfl; have hcz93_1 : w91.cell? ⟨gb151, 1, none⟩ = some (.string (⟨#[]⟩ : ByteArray)) := (blk_cell BK151.out 1).trans rfl; have hcz93_2 : w91.cell? ⟨gb151, 2, none⟩ = some (.int .i64 0) := (blk_cell BK151.out 2).trans rfl; have hfz93_0 := blk_frozen BK151.out 0; have hfz93_1 := blk_frozen BK151.out 1; have hfz93_2 := blk_frozen BK151.out 2; have hcz94_0 : w91.cell? ⟨gb134, 0, none⟩ = some (.string x135000_3) := (blk_cell BK134.out 0).trans rfl; have hcz94_1 : w91.cell? ⟨gb134, 1, none⟩ = some (.string x135001_3) := (blk_cell BK134.out 1).trans rfl; have hcz94_2 : w91.cell? ⟨gb134, 2, none⟩ = some (.int .i64 x135002_3) := (blk_cell BK134.out 2).trans rfl; have hfz94_0 := blk_frozen BK134.out 0; have hfz94_1 := blk_frozen BK134.out 1; have hfz94_2 := blk_frozen BK134.out 2))
                                                          refine bodyPost_ret (results_ctt rfl _ _ gb134 29 #[.string (a0.extract 0 ((rd x5_1 0) : Int).toNat), .string (a0.extract ((ji21) : Int).toNat ((rd x5_1 1) : Int).toNat), .int .i64 0] (0, 0) _ rfl (by (with_reducible repeat (first | refine blk_drewN ?_ _ | refine blk_drew ?_ | refine blk_alloc ?_ _)); refine blk_put (cs := #[.string (a0.extract 0 ((rd x5_1 0) : Int).toNat), .string (a0.extract ((ji21) : Int).toNat ((rd x5_1 1) : Int).toNat), .int .i64 x135002_3]) ?_ 2 _ rfl; (with_reducible repeat (first | refine blk_drewN ?_ _ | refine blk_drew ?_ | refine blk_alloc ?_ _)); refine blk_put (cs := #[.string (a0.extract 0 ((rd x5_1 0) : Int).toNat), .string x135001_3, .int .i64 x135002_3]) ?_ 1 _ rfl; (with_reducible repeat (first | refine blk_drewN ?_ _ | refine blk_drew ?_ | refine blk_alloc ?_ _)); refine blk_put (cs := #[.string x135000_3, .string x135001_3, .int .i64 x135002_3]) ?_ 0 _ rfl; (with_reducible repeat (first | refine blk_drewN ?_ _ | refine blk_drew ?_ | refine blk_alloc ?_ _)); refine blk_far ?_ NB134_151.out _; (with_reducible repeat (first | refine blk_drewN ?_ _ | refine blk_drew ?_ | refine blk_alloc ?_ _)); refine blk_far ?_ NB134_151.out _; (with_reducible repeat (first | refine blk_drewN ?_ _ | refine blk_drew ?_ | refine blk_alloc ?_ _)); refine blk_far ?_ NB134_151.out _; (with_reducible repeat (first | refine blk_drewN ?_ _ | refine blk_drew ?_ | refine blk_alloc ?_ _)); exact BK134.out) Tryd.underlying29 rfl (by kernel_rfl)) rfl ?_
                                                          exact ⟨by first | rfl | (simp [errW_none, errW_some] <;> rfl) | (simp only [← hji21, ← hji51]; first | rfl | (simp [errW_none, errW_some] <;> rfl)) | (simp [*, errW_none, errW_some] <;> rfl), by repeat (first | (with_reducible first | exact HB.out | apply below_alloc | apply pw_below_drewN | apply below_drew1 | refine below_set ?_ GE134.out | refine below_set ?_ GE151.out) | exact HB.out)⟩
                                                      · rw [if_neg c85] at H
                                                        exact absurd H (by simp)
                                                    · rw [if_neg c84] at H
                                                      exact absurd H (by simp)
                                                  · rw [if_neg c83] at H
                                                    exact absurd H (by simp)
                                    · rw [if_neg c53] at H
                                      exact absurd H (by simp)
                                  · rw [if_neg c52] at H
                                    exact absurd H (by simp)
                                · rw [if_neg c50] at H
                                  exact absurd H (by simp)
                      · rw [if_neg c24] at H
                        exact absurd H (by simp)
                    · rw [if_neg c23] at H
                      exact absurd H (by simp)
                  · rw [if_neg c22] at H
                    exact absurd H (by simp)
                · rw [if_neg c20] at H
                  exact absurd H (by simp)
              · rw [if_neg c19] at H
                exact absurd H (by simp)

end Go.Proofs.YtiolgglipcijpaaDoor.P
end

section
namespace Go.Proofs.YtiolgglipcijpaaDoor.P
open Go.RowKit Go.Proofs.YtiolgglipcijpaaDoorW.PrintWords Go.Proofs.YtiolgglipcijpaaDoorW.PrintLast Go.Proofs.YtiolgglipcijpaaDoorW.PrintMore
attribute [local go_sem] max2_int min2_int max_two min_two max_three min_three max_four min_four   -- for this text's walks alone
set_option linter.unusedVariables false
set_option linter.unusedSimpArgs false

/-! ### reqline_Text: function 15 -/
def reqline_Text.f (a0_0 : ByteArray) (a0_1 : ByteArray) (a0_2 : Int) : Option (ByteArray) := if a0_2 = 0 then (if a0_0.size + 1 ≤ 9223372036854775807 then (if (a0_0 ++ (⟨#[32]⟩ : ByteArray)).size + a0_1.size ≤ 9223372036854775807 then (if ((a0_0 ++ (⟨#[32]⟩ : ByteArray)) ++ a0_1).size + 1 ≤ 9223372036854775807 then (if (((a0_0 ++ (⟨#[32]⟩ : ByteArray)) ++ a0_1) ++ (⟨#[32]⟩ : ByteArray)).size + 8 ≤ 9223372036854775807 then (some ((((a0_0 ++ (⟨#[32]⟩ : ByteArray)) ++ a0_1) ++ (⟨#[32]⟩ : ByteArray)) ++ (⟨#[72, 84, 84, 80, 47, 49, 46, 48]⟩ : ByteArray))) else (none)) else (none)) else (none)) else (none)) else (if a0_0.size + 1 ≤ 9223372036854775807 then (if (a0_0 ++ (⟨#[32]⟩ : ByteArray)).size + a0_1.size ≤ 9223372036854775807 then (if ((a0_0 ++ (⟨#[32]⟩ : ByteArray)) ++ a0_1).size + 1 ≤ 9223372036854775807 then (if (((a0_0 ++ (⟨#[32]⟩ : ByteArray)) ++ a0_1) ++ (⟨#[32]⟩ : ByteArray)).size + 8 ≤ 9223372036854775807 then (some ((((a0_0 ++ (⟨#[32]⟩ : ByteArray)) ++ a0_1) ++ (⟨#[32]⟩ : ByteArray)) ++ (⟨#[72, 84, 84, 80, 47, 49, 46, 49]⟩ : ByteArray))) else (none)) else (none)) else (none)) else (none))
set_option maxHeartbeats 8000000 in
set_option maxRecDepth 100000 in
theorem reqline_Text.calls (a0_0 : ByteArray) (a0_1 : ByteArray) (a0_2 : Int) (r : ByteArray) (w : World) (h : reqline_Text.f a0_0 a0_1 a0_2 = some r) :
    Calls Tryd.prog 15 #[.agg #[.string a0_0, .string a0_1, .int .i64 a0_2]] w fun e w' => e = .returned (.string r) ∧ Below w.heap.size w w' := by
  have hu24 := Tryd.underlying24
  have HB := Aside0.mk (Below.refl w.heap.size w)
  have H : (if a0_2 = 0 then (if a0_0.size + 1 ≤ 9223372036854775807 then (if (a0_0 ++ (⟨#[32]⟩ : ByteArray)).size + a0_1.size ≤ 9223372036854775807 then (if ((a0_0 ++ (⟨#[32]⟩ : ByteArray)) ++ a0_1).size + 1 ≤ 9223372036854775807 then (if (((a0_0 ++ (⟨#[32]⟩ : ByteArray)) ++ a0_1) ++ (⟨#[32]⟩ : ByteArray)).size + 8 ≤ 9223372036854775807 then (some ((((a0_0 ++ (⟨#[32]⟩ : ByteArray)) ++ a0_1) ++ (⟨#[32]⟩ : ByteArray)) ++ (⟨#[72, 84, 84, 80, 47, 49, 46, 48]⟩ : ByteArray))) else (none)) else (none)) else (none)) else (none)) else (if a0_0.size + 1 ≤ 9223372036854775807 then (if (a0_0 ++ (⟨#[32]⟩ : ByteArray)).size + a0_1.size ≤ 9223372036854775807 then (if ((a0_0 ++ (⟨#[32]⟩ : ByteArray)) ++ a0_1).size + 1 ≤ 9223372036854775807 then (if (((a0_0 ++ (⟨#[32]⟩ : ByteArray)) ++ a0_1) ++ (⟨#[32]⟩ : ByteArray)).size + 8 ≤ 9223372036854775807 then (some ((((a0_0 ++ (⟨#[32]⟩ : ByteArray)) ++ a0_1) ++ (⟨#[32]⟩ : ByteArray)) ++ (⟨#[72, 84, 84, 80, 47, 49, 46, 49]⟩ : ByteArray))) else (none)) else (none)) else (none)) else (none))) = some r := h
  clear h
  by_cases c2 : a0_2 = 0
  · rw [if_pos c2] at H
    have c2b0 : (a0_2 == 0) = true := beq_iff_eq.mpr c2
    have c2b1 : (a0_2 != 0) = false := bne_eq_false_iff_eq.mpr c2
    clear c2
    by_cases c3 : a0_0.size + 1 ≤ 9223372036854775807
    · rw [if_pos c3] at H
      have c3b0 := eq_true c3
      have c3b1 : decide (a0_0.size + 1 ≤ 9223372036854775807) = true := decide_eq_true c3
      try have c3b2 : (9223372036854775807 < a0_0.size + 1) = False := eq_false (Nat.not_lt.2 c3)
      by_cases c4 : (a0_0 ++ (⟨#[32]⟩ : ByteArray)).size + a0_1.size ≤ 9223372036854775807
      · rw [if_pos c4] at H
        have c4b0 := eq_true c4
        have c4b1 : decide ((a0_0 ++ (⟨#[32]⟩ : ByteArray)).size + a0_1.size ≤ 9223372036854775807) = true := decide_eq_true c4
        try have c4b2 : (9223372036854775807 < (a0_0 ++ (⟨#[32]⟩ : ByteArray)).size + a0_1.size) = False := eq_false (Nat.not_lt.2 c4)
        try have c4b3 : (9223372036854775807 < a0_0.size + 1 + a0_1.size) = False := (by have h_ := c4b2; (repeat rw [ByteArray.size_append] at h_); exact h_)
        by_cases c5 : ((a0_0 ++ (⟨#[32]⟩ : ByteArray)) ++ a0_1).size + 1 ≤ 9223372036854775807
        · rw [if_pos c5] at H
          have c5b0 := eq_true c5
          have c5b1 : decide (((a0_0 ++ (⟨#[32]⟩ : ByteArray)) ++ a0_1).size + 1 ≤ 9223372036854775807) = true := decide_eq_true c5
          try have c5b2 : (9223372036854775807 < ((a0_0 ++ (⟨#[32]⟩ : ByteArray)) ++ a0_1).size + 1) = False := eq_false (Nat.not_lt.2 c5)
          try have c5b3 : (9223372036854775807 < a0_0.size + 1 + a0_1.size + 1) = False := (by have h_ := c5b2; (repeat rw [ByteArray.size_append] at h_); exact h_)
          by_cases c6 : (((a0_0 ++ (⟨#[32]⟩ : ByteArray)) ++ a0_1) ++ (⟨#[32]⟩ : ByteArray)).size + 8 ≤ 9223372036854775807
          · rw [if_pos c6] at H
            have c6b0 := eq_true c6
            have c6b1 : decide ((((a0_0 ++ (⟨#[32]⟩ : ByteArray)) ++ a0_1) ++ (⟨#[32]⟩ : ByteArray)).size + 8 ≤ 9223372036854775807) = true := decide_eq_true c6
            try have c6b2 : (9223372036854775807 < (((a0_0 ++ (⟨#[32]⟩ : ByteArray)) ++ a0_1) ++ (⟨#[32]⟩ : ByteArray)).size + 8) = False := eq_false (Nat.not_lt.2 c6)
            try have c6b3 : (9223372036854775807 < a0_0.size + 1 + a0_1.size + 1 + 8) = False := (by have h_ := c6b2; (repeat rw [ByteArray.size_append] at h_); exact h_)
            obtain rfl := Option.some.inj H
            go_enter Tryd.func15, Tryd.ntmps15
            go_wp2_with (first | ((with_reducible refine gate_dst (N := 1) rfl ?_); refine box_event ?hg (N := 1) ?hd (cs := #[.string a0_0, .string a0_1, .int .i64 a0_2]) (t := 24) ?hr ?_; (case hd => rfl); (case hg => rfl); (case hr => first | (go_simp; done) | (go_simp; rfl)); intro gb101 hg w7 hbox hb; have n0_ := Aside0.mk (below_step (by repeat (first | (with_reducible first | exact HB.out | apply below_alloc | apply pw_below_drewN | apply below_drew1) | exact HB.out)) hb); have n1_ := Aside0.mk (hbox); have n2_ := Aside0.mk ((by rw [hg]; exact (below_size (by repeat (first | (with_reducible first | exact HB.out | apply below_alloc | apply pw_below_drewN | apply below_drew1) | exact HB.out))) : w.heap.size ≤ gb101)); have n3_ := Aside0.mk ((by rw [hg]; exact (below_size (by repeat (first | (with_reducible first | exact HB.out | apply below_alloc | apply pw_below_drewN | apply below_drew1) | exact HB.out))) : w.heap.size ≤ gb101)); clear HB; have HB := n0_; have BK101 := n1_; have GW101 := n2_; have GE101 := n3_; clear n0_ n1_ n2_ n3_; clear hb hbox hg; have hcz8_0 : w7.cell? ⟨gb101, 0, none⟩ = some (.string a0_0) := (blk_cell BK101.out 0).trans rfl; have hcz8_1 : w7.cell? ⟨gb101, 1, none⟩ = some (.string a0_1) := (blk_cell BK101.out 1).trans rfl; have hcz8_2 : w7.cell? ⟨gb101, 2, none⟩ = some (.int .i64 a0_2) := (blk_cell BK101.out 2).trans rfl; have hfz8_0 := blk_frozen BK101.out 0; have hfz8_1 := blk_frozen BK101.out 1; have hfz8_2 := blk_frozen BK101.out 2))
            go_ret
            exact ⟨by first | rfl | (simp [errW_none, errW_some] <;> rfl) | (simp [*, errW_none, errW_some] <;> rfl), by repeat (first | (with_reducible first | exact HB.out | apply below_alloc | apply pw_below_drewN | apply below_drew1 | refine below_set ?_ GE101.out) | exact HB.out)⟩
          · rw [if_neg c6] at H
            exact absurd H (by simp)
        · rw [if_neg c5] at H
          exact absurd H (by simp)
      · rw [if_neg c4] at H
        exact absurd H (by simp)
    · rw [if_neg c3] at H
      exact absurd H (by simp)
  · rw [if_neg c2] at H
    have c2b0 : (a0_2 == 0) = false := beq_eq_false_iff_ne.mpr c2
    have c2b1 : (a0_2 != 0) = true := bne_iff_ne.mpr c2
    by_cases c9 : a0_0.size + 1 ≤ 9223372036854775807
    · rw [if_pos c9] at H
      have c9b0 := eq_true c9
      have c9b1 : decide (a0_0.size + 1 ≤ 9223372036854775807) = true := decide_eq_true c9
      try have c9b2 : (9223372036854775807 < a0_0.size + 1) = False := eq_false (Nat.not_lt.2 c9)
      by_cases c10 : (a0_0 ++ (⟨#[32]⟩ : ByteArray)).size + a0_1.size ≤ 9223372036854775807
      · rw [if_pos c10] at H
        have c10b0 := eq_true c10
        have c10b1 : decide ((a0_0 ++ (⟨#[32]⟩ : ByteArray)).size + a0_1.size ≤ 9223372036854775807) = true := decide_eq_true c10
        try have c10b2 : (9223372036854775807 < (a0_0 ++ (⟨#[32]⟩ : ByteArray)).size + a0_1.size) = False := eq_false (Nat.not_lt.2 c10)
        try have c10b3 : (9223372036854775807 < a0_0.size + 1 + a0_1.size) = False := (by have h_ := c10b2; (repeat rw [ByteArray.size_append] at h_); exact h_)
        by_cases c11 : ((a0_0 ++ (⟨#[32]⟩ : ByteArray)) ++ a0_1).size + 1 ≤ 9223372036854775807
        · rw [if_pos c11] at H
          have c11b0 := eq_true c11
          have c11b1 : decide (((a0_0 ++ (⟨#[32]⟩ : ByteArray)) ++ a0_1).size + 1 ≤ 9223372036854775807) = true := decide_eq_true c11
          try have c11b2 : (9223372036854775807 < ((a0_0 ++ (⟨#[32]⟩ : ByteArray)) ++ a0_1).size + 1) = False := eq_false (Nat.not_lt.2 c11)
          try have c11b3 : (9223372036854775807 < a0_0.size + 1 + a0_1.size + 1) = False := (by have h_ := c11b2; (repeat rw [ByteArray.size_append] at h_); exact h_)
          by_cases c12 : (((a0_0 ++ (⟨#[32]⟩ : ByteArray)) ++ a0_1) ++ (⟨#[32]⟩ : ByteArray)).size + 8 ≤ 9223372036854775807
          · rw [if_pos c12] at H
            have c12b0 := eq_true c12
            have c12b1 : decide ((((a0_0 ++ (⟨#[32]⟩ : ByteArray)) ++ a0_1) ++ (⟨#[32]⟩ : ByteArray)).size + 8 ≤ 9223372036854775807) = true := decide_eq_true c12
            try have c12b2 : (9223372036854775807 < (((a0_0 ++ (⟨#[32]⟩ : ByteArray)) ++ a0_1) ++ (⟨#[32]⟩ : ByteArray)).size + 8) = False := eq_false (Nat.not_lt.2 c12)
            try have c12b3 : (9223372036854775807 < a0_0.size + 1 + a0_1.size + 1 + 8) = False := (by have h_ := c12b2; (repeat rw [ByteArray.size_append] at h_); exact h_)
            obtain rfl := Option.some.inj H
            go_enter Tryd.func15, Tryd.ntmps15
            go_wp2_with (first | ((with_reducible refine gate_dst (N := 1) rfl ?_); refine box_event ?hg (N := 1) ?hd (cs := #[.string a0_0, .string a0_1, .int .i64 a0_2]) (t := 24) ?hr ?_; (case hd => rfl); (case hg => rfl); (case hr => first | (go_simp; done) | (go_simp; rfl)); intro gb101 hg w13 hbox hb; have n0_ := Aside0.mk (below_step (by repeat (first | (with_reducible first | exact HB.out | apply below_alloc | apply pw_below_drewN | apply below_drew1) | exact HB.out)) hb); have n1_ := Aside0.mk (hbox); have n2_ := Aside0.mk ((by rw [hg]; exact (below_size (by repeat (first | (with_reducible first | exact HB.out | apply below_alloc | apply pw_below_drewN | apply below_drew1) | exact HB.out))) : w.heap.size ≤ gb101)); have n3_ := Aside0.mk ((by rw [hg]; exact (below_size (by repeat (first | (with_reducible first | exact HB.out | apply below_alloc | apply pw_below_drewN | apply below_drew1) | exact HB.out))) : w.heap.size ≤ gb101)); clear HB; have HB := n0_; have BK101 := n1_; have GW101 := n2_; have GE101 := n3_; clear n0_ n1_ n2_ n3_; clear hb hbox hg; have hcz14_0 : w13.cell? ⟨gb101, 0, none⟩ = some (.string a0_0) := (blk_cell BK101.out 0).trans rfl; have hcz14_1 : w13.cell? ⟨gb101, 1, none⟩ = some (.string a0_1) := (blk_cell BK101.out 1).trans rfl; have hcz14_2 : w13.cell? ⟨gb101, 2, none⟩ = some (.int .i64 a0_2) := (blk_cell BK101.out 2).trans rfl; have hfz14_0 := blk_frozen BK101.out 0; have hfz14_1 := blk_frozen BK101.out 1; have hfz14_2 := blk_frozen BK101.out 2))
            go_ret
            exact ⟨by first | rfl | (simp [errW_none, errW_some] <;> rfl) | (simp [*, errW_none, errW_some] <;> rfl), by repeat (first | (with_reducible first | exact HB.out | apply below_alloc | apply pw_below_drewN | apply below_drew1 | refine below_set ?_ GE101.out) | exact HB.out)⟩
          · rw [if_neg c12] at H
            exact absurd H (by simp)
        · rw [if_neg c11] at H
          exact absurd H (by simp)
      · rw [if_neg c10] at H
        exact absurd H (by simp)
    · rw [if_neg c9] at H
      exact absurd H (by simp)

end Go.Proofs.YtiolgglipcijpaaDoor.P
end

section
namespace Go.Proofs.YtiolgglipcijpaaDoor.P
open Go.RowKit Go.Proofs.YtiolgglipcijpaaDoorW.PrintWords Go.Proofs.YtiolgglipcijpaaDoorW.PrintLast Go.Proofs.YtiolgglipcijpaaDoorW.PrintMore
attribute [local go_sem] max2_int min2_int max_two min_two max_three min_three max_four min_four   -- for this text's walks alone
set_option linter.unusedVariables false
set_option linter.unusedSimpArgs false

theorem eqA24 (d : Nat) (w : World) (x0 y0 : ByteArray) (x1 y1 : ByteArray) (x2 y2 : Int) :
    (Op.equalIn (d + 2) 24 (.agg #[.string x0, .string x1, .int .i64 x2]) (.agg #[.string y0, .string y1, .int .i64 y2])).run Tryd.prog w = .ok (x0.toList == y0.toList && (x1.toList == y1.toList && (x2 == y2))) w := by
  refine eqA_of Tryd.underlying24 (by kernel_rfl) ?_
  refine eqf_cons (by rfl) (by go_simp; rfl) (by go_simp; rfl) (by go_simp) ?_
  refine eqf_cons (by rfl) (by go_simp; rfl) (by go_simp; rfl) (by go_simp) ?_
  exact eqf_last (by rfl) (by go_simp; rfl) (by go_simp; rfl) (by go_simp)
end Go.Proofs.YtiolgglipcijpaaDoor.P
end

section
namespace Go.Proofs.YtiolgglipcijpaaDoor.PB
open Go Go.RowKit Go.Proofs.YtiolgglipcijpaaDoorW.PrintWords

def toL (s : ByteArray) : List UInt8 := s.data.toList
def ofL (l : List UInt8) : ByteArray := ⟨l.toArray⟩
theorem toL_ofL (l : List UInt8) : toL (ofL l) = l := rfl
theorem ofL_toL (s : ByteArray) : ofL (toL s) = s := by cases s; simp [ofL, toL]
theorem toL_inj {a b : ByteArray} (h : toL a = toL b) : a = b := by rw [← ofL_toL a, ← ofL_toL b, h]
theorem toL_length (s : ByteArray) : (toL s).length = s.size := by rw [toL, Array.length_toList]; rfl
theorem size_ofL (l : List UInt8) : (ofL l).size = l.length := by rw [← toL_length, toL_ofL]
theorem toList_toL (s : ByteArray) : s.toList = toL s := ByteArray.toList_eq s
theorem toList_ofL (l : List UInt8) : (ofL l).toList = l := by rw [toList_toL, toL_ofL]
theorem toL_extract (s : ByteArray) (i j : Nat) : toL (s.extract i j) = ((toL s).drop i).take (j - i) := by
  simp [toL, ByteArray.data_extract, Array.toList_extract, List.extract_eq_take_drop]
theorem extract_ofL (l : List UInt8) (i j : Nat) : (ofL l).extract i j = ofL ((l.drop i).take (j - i)) := toL_inj (by rw [toL_extract, toL_ofL, toL_ofL])
theorem toL_append (a b : ByteArray) : toL (a ++ b) = toL a ++ toL b := by simp [toL]
theorem append_ofL (a b : List UInt8) : ofL a ++ ofL b = ofL (a ++ b) := toL_inj (by rw [toL_append, toL_ofL, toL_ofL, toL_ofL])
theorem bt_toL (s : ByteArray) (i : Int) : bt s i = (((toL s)[i.toNat]?.getD 0).toNat : Int) := by
  unfold bt
  split
  · rename_i h
    have h' : i.toNat < (toL s).length := by rw [toL_length]; exact h
    rw [List.getElem?_eq_getElem h']; rfl
  · rename_i h
    rw [List.getElem?_eq_none (by rw [toL_length]; omega)]; rfl
theorem bt_ofL (l : List UInt8) (i : Int) : bt (ofL l) i = ((l[i.toNat]?.getD 0).toNat : Int) := by rw [bt_toL, toL_ofL]
theorem wrap64_ok {x : Int} (h0 : -9223372036854775808 ≤ x) (h1 : x ≤ 9223372036854775807) : wrap64 x = x := by unfold wrap64; omega
theorem u8_eq_nat (c : UInt8) (n : Nat) (hn : n < 256) : ((c.toNat : Int) = (n : Int)) ↔ c = UInt8.ofNat n := by
  constructor
  · intro h
    have : c.toNat = n := by omega
    rw [← this]; simp
  · rintro rfl
    simp [UInt8.toNat_ofNat]; omega
theorem strOfNums_nat (l : List UInt8) : strOfNums (l.map fun c => (c.toNat : Int)) = ofL l := by
  simp [strOfNums, ofL, Function.comp_def]
theorem ne_nil_split (l : List UInt8) (h : l ≠ []) : ∃ a x, l = a ++ [x] := ⟨l.dropLast, l.getLast h, (List.dropLast_concat_getLast h).symm⟩

end Go.Proofs.YtiolgglipcijpaaDoor.PB
end
