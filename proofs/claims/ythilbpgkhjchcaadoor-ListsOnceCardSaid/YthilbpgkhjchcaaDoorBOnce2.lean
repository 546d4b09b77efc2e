/- What the references of layer 12 give: elements, tokens, words, joined texts. Plain facts on lists of elements: parts, joined texts, the case of letters. Conditions: none beyond those that each theorem states. -/
import Derived.Test.YthilbpgkhjchcaaDoorBOnce0
import Derived.Test.YthilbpgkhjchcaaDoorBOnce1

section
namespace Go.Proofs.YthilbpgkhjchcaaDoor.P
open Go.RowKit Go.Proofs.YthilbpgkhjchcaaDoorW.PrintWords Go.Proofs.YthilbpgkhjchcaaDoorW.PrintLast Go.Proofs.YthilbpgkhjchcaaDoorW.PrintMore
attribute [local go_sem] max2_int min2_int max_two min_two max_three min_three max_four min_four   -- for this text's walks alone
set_option linter.unusedVariables false
set_option linter.unusedSimpArgs false

/-! ### doorkeeperref12_Elements: function 14 -/
mutual
def doorkeeperref12_Elements.l0 : Nat → List ByteArray → List ByteArray → Int → Option (List ByteArray)
  | 0, _, _, _ => none
  | k + 1, x0, x3, x4 => if x4 < (x0.length : Int) then (if 0 ≤ x4 then (if (rdOf ByteArray.empty x0 x4).size + 1 ≤ 9223372036854775807 then (doorkeeperref12_Elements.l1 k x0 x3 x4 (⟨#[]⟩ : ByteArray) ((rdOf ByteArray.empty x0 x4) ++ (⟨#[44]⟩ : ByteArray)) 0) else (none)) else (none)) else (some x3)
def doorkeeperref12_Elements.l1 : Nat → List ByteArray → List ByteArray → Int → ByteArray → ByteArray → Int → Option (List ByteArray)
  | 0, _, _, _, _, _, _ => none
  | k + 1, x0, x3, x4, x5, x6, x7 => if x7 < (x6.size : Int) then (if 0 ≤ x7 then (if (bt x6 x7) = 44 then ((doorkeeperref02_Trim.f k x5).bind fun t145 => (if t145.toList = ([] : List UInt8) then (doorkeeperref12_Elements.l1 k x0 x3 x4 (⟨#[]⟩ : ByteArray) x6 (wrap64 (x7 + 1))) else ((doorkeeperref02_Trim.f k x5).bind fun t146 => (if x3.length < 8796093022208 then (doorkeeperref12_Elements.l1 k x0 (x3 ++ [t146]) x4 (⟨#[]⟩ : ByteArray) x6 (wrap64 (x7 + 1))) else (none))))) else (if x7 ≤ (wrap64 (x7 + 1)) then (if (wrap64 (x7 + 1)) ≤ (x6.size : Int) then (if x5.size + (x6.extract (x7 : Int).toNat ((wrap64 (x7 + 1)) : Int).toNat).size ≤ 9223372036854775807 then (doorkeeperref12_Elements.l1 k x0 x3 x4 (x5 ++ (x6.extract (x7 : Int).toNat ((wrap64 (x7 + 1)) : Int).toNat)) x6 (wrap64 (x7 + 1))) else (none)) else (none)) else (none))) else (none)) else (doorkeeperref12_Elements.l0 k x0 x3 (wrap64 (x4 + 1)))
end
def doorkeeperref12_Elements.f (k : Nat) (l0 : List ByteArray) : Option (List ByteArray) := doorkeeperref12_Elements.l0 k l0 ([] : List ByteArray) 0
theorem doorkeeperref12_Elements.mono_l : ∀ k, (∀ y0 y1 y2, LeO (doorkeeperref12_Elements.l0 k y0 y1 y2) (doorkeeperref12_Elements.l0 (k + 1) y0 y1 y2)) ∧ (∀ y0 y1 y2 y3 y4 y5, LeO (doorkeeperref12_Elements.l1 k y0 y1 y2 y3 y4 y5) (doorkeeperref12_Elements.l1 (k + 1) y0 y1 y2 y3 y4 y5))
  | 0 => ⟨fun _ _ _ r h => by simp [doorkeeperref12_Elements.l0] at h, fun _ _ _ _ _ _ r h => by simp [doorkeeperref12_Elements.l1] at h⟩
  | k + 1 => by
    obtain ⟨ih0, ih1⟩ := doorkeeperref12_Elements.mono_l k
    refine ⟨?_, ?_⟩
    · intro y0 y1 y2
      unfold doorkeeperref12_Elements.l0
      repeat' first
      | (with_reducible exact ih0 _ _ _)
      | (with_reducible exact ih1 _ _ _ _ _ _)
      | (with_reducible exact doorkeeperref02_Trim.mono _ _)
      | (with_reducible exact LeO.refl _)
      | (with_reducible exact LeO.none _)
      | (with_reducible refine LeO.ite ?_ ?_)
      | (with_reducible refine LeO.bind ?_ (fun _ => ?_))
      | exact ih0 _ _ _
      | exact ih1 _ _ _ _ _ _
      | exact doorkeeperref02_Trim.mono _ _
      | exact LeO.none _
      | refine LeO.ite ?_ ?_
      | refine LeO.bind ?_ (fun _ => ?_)
    · intro y0 y1 y2 y3 y4 y5
      unfold doorkeeperref12_Elements.l1
      repeat' first
      | (with_reducible exact ih0 _ _ _)
      | (with_reducible exact ih1 _ _ _ _ _ _)
      | (with_reducible exact doorkeeperref02_Trim.mono _ _)
      | (with_reducible exact LeO.refl _)
      | (with_reducible exact LeO.none _)
      | (with_reducible refine LeO.ite ?_ ?_)
      | (with_reducible refine LeO.bind ?_ (fun _ => ?_))
      | exact ih0 _ _ _
      | exact ih1 _ _ _ _ _ _
      | exact doorkeeperref02_Trim.mono _ _
      | exact LeO.none _
      | refine LeO.ite ?_ ?_
      | refine LeO.bind ?_ (fun _ => ?_)
theorem doorkeeperref12_Elements.mono : ∀ a0 k, LeO (doorkeeperref12_Elements.f k a0) (doorkeeperref12_Elements.f (k + 1) a0) := by
  intro a0 k
  obtain ⟨ih0, ih1⟩ := doorkeeperref12_Elements.mono_l k
  unfold doorkeeperref12_Elements.f
  repeat' first
      | (with_reducible exact ih0 _ _ _)
      | (with_reducible exact ih1 _ _ _ _ _ _)
      | (with_reducible exact doorkeeperref02_Trim.mono _ _)
      | (with_reducible exact LeO.refl _)
      | (with_reducible exact LeO.none _)
      | (with_reducible refine LeO.ite ?_ ?_)
      | (with_reducible refine LeO.bind ?_ (fun _ => ?_))
      | exact ih0 _ _ _
      | exact ih1 _ _ _ _ _ _
      | exact doorkeeperref02_Trim.mono _ _
      | exact LeO.none _
      | refine LeO.ite ?_ ?_
      | refine LeO.bind ?_ (fun _ => ?_)
set_option maxHeartbeats 8000000 in
set_option maxRecDepth 100000 in
theorem doorkeeperref12_Elements.calls (k : Nat) (A0 : Option Addr) (c0 : Nat) (l0 : List ByteArray) (r : List ByteArray) (w : World) (hr0 : Kd.C Kd.string w A0 l0.length l0) (hc0 : l0.length ≤ c0) (h : doorkeeperref12_Elements.f k l0 = some r) :
    Calls Tryd.prog 14 #[.slice A0 l0.length c0] w fun e w' => ∃ v0_ : Value, e = .returned (v0_) ∧ Kd.R Kd.string 9 w' w.heap.size (fun _ => True) v0_ r ∧ Below w.heap.size w w' := by
  have HR0 := Aside0.mk hr0
  have HC0 := Aside0.mk hc0
  clear hr0 hc0
  have HB := Aside0.mk (Below.refl w.heap.size w)
  have H : (doorkeeperref12_Elements.l0 k l0 ([] : List ByteArray) 0) = some r := h
  clear h
  have H' := Aside0.mk H
  clear H
  go_enter Tryd.func14, Tryd.ntmps14
  go_wp2
  go_loopg [3, 4] k (fun kq v3 v4 w' => ∃ (x3_1 : List ByteArray) (x4_1 : Int), v4 = .int .i64 x4_1 ∧ Aside0 (doorkeeperref12_Elements.l0 kq l0 x3_1 x4_1 = some r) ∧ Aside0 (kq ≤ k) ∧ Aside0 (Kd.R Kd.string 9 w' w.heap.size (fun _ => True) v3 x3_1) ∧ Aside0 (Below w.heap.size w w'))
  case atStart => exact ⟨(([] : List ByteArray)), (0), (by first | rfl | (simp; done) | (simp [*]; done)), H', ⟨Nat.le_refl _⟩, ⟨by first | exact Kd.R_nil _ _ _ _ _ | exact Kd.N_nil _ _ _ _ _ | exact Kd.V_nil _ _ _ _ _ | exact Kd.Q_nil _ _ _ _ _ | exact Kd.S_nil _ _ _ _ _⟩, ⟨by repeat (first | (with_reducible first | exact HB.out | apply below_alloc | apply pw_below_drewN | apply below_drew1) | exact HB.out)⟩⟩
  case round =>
    clear H'
    try clear c1
    obtain ⟨x3_1, x4_1, rfl, HA, HK1, HO_3, HB⟩ := hrel
    cases gk with
    | zero => exact absurd HA.out (by simp [doorkeeperref12_Elements.l0])
    | succ k1 =>
      have H := HA.out
      clear HA
      simp only [doorkeeperref12_Elements.l0] at H
      by_cases c2 : x4_1 < (l0.length : Int)
      · rw [if_pos c2] at H
        have c2b0 : decide (x4_1 < (l0.length : Int)) = true := decide_eq_true c2
        clear c2
        by_cases c3 : 0 ≤ x4_1
        · rw [if_pos c3] at H
          have c3b0 : decide (0 ≤ x4_1) = true := decide_eq_true c3
          clear c3
          by_cases c4 : (rdOf ByteArray.empty l0 x4_1).size + 1 ≤ 9223372036854775807
          · rw [if_pos c4] at H
            have c4b0 := eq_true c4
            have c4b1 : decide ((rdOf ByteArray.empty l0 x4_1).size + 1 ≤ 9223372036854775807) = true := decide_eq_true c4
            try have c4b2 : (9223372036854775807 < (rdOf ByteArray.empty l0 x4_1).size + 1) = False := eq_false (Nat.not_lt.2 c4)
            have H' := Aside0.mk H
            clear H
            have p144 : 0 ≤ (x4_1 : Int) := of_decide_eq_true (by first | (with_reducible assumption) | assumption)
            have q144 : x4_1 < (l0.length : Int) := of_decide_eq_true (by first | (with_reducible assumption) | assumption)
            obtain ⟨ad144, e144, hx144_0⟩ := Kd.at_string HR0.out x4_1 p144 q144
            cases e144
            replace hx144_0 := (HB.out.cell (World.block_lt_of_cell? w _ hx144_0)).trans hx144_0
            replace p144 := eq_true p144
            replace q144 := eq_true q144
            go_wp2
            generalize (rdOf ByteArray.empty l0 x4_1) ++ (⟨#[44]⟩ : ByteArray) = V6 at H' ⊢
            go_loopg [3, 5, 7] k1 (fun kq v3 v5 v7 w' => ∃ (x3_2 : List ByteArray) (x5_2 : ByteArray) (x7_2 : Int), v5 = .string x5_2 ∧ v7 = .int .i64 x7_2 ∧ Aside0 (doorkeeperref12_Elements.l1 kq l0 x3_2 x4_1 x5_2 V6 x7_2 = some r) ∧ Aside0 (kq ≤ k1) ∧ Aside0 (Kd.R Kd.string 9 w' w.heap.size (fun _ => True) v3 x3_2) ∧ Aside0 (Below w.heap.size w w'))
            case atStart => exact ⟨(x3_1), ((⟨#[]⟩ : ByteArray)), (0), (by first | rfl | (simp; done) | (simp [*]; done)), (by first | rfl | (simp; done) | (simp [*]; done)), H', ⟨Nat.le_refl _⟩, ⟨by (with_reducible repeat (first | apply Kd.R_alloc | apply Kd.R_drewN | apply Kd.R_drew)); exact HO_3.out⟩, ⟨by repeat (first | (with_reducible first | exact HB.out | apply below_alloc | apply pw_below_drewN | apply below_drew1) | exact HB.out)⟩⟩
            case round =>
              clear H'
              try clear c1
              try clear p1
              try clear q1
              try clear hx1
              try clear c2
              try clear c2b0
              try clear p2
              try clear c3
              try clear c3b0
              try clear c4
              try clear c4b0
              try clear c4b1
              try clear c4b2
              try clear hx144_0
              try clear p144
              try clear q144
              obtain ⟨x3_2, x5_2, x7_2, rfl, rfl, HA, HK2, HO_3, HB⟩ := hrel
              cases gk with
              | zero => exact absurd HA.out (by simp [doorkeeperref12_Elements.l1])
              | succ k2 =>
                have H := HA.out
                clear HA
                simp only [doorkeeperref12_Elements.l1] at H
                by_cases c5 : x7_2 < (V6.size : Int)
                · rw [if_pos c5] at H
                  have c5b0 : decide (x7_2 < (V6.size : Int)) = true := decide_eq_true c5
                  clear c5
                  by_cases c6 : 0 ≤ x7_2
                  · rw [if_pos c6] at H
                    have c6b0 : decide (0 ≤ x7_2) = true := decide_eq_true c6
                    clear c6
                    by_cases c8 : (bt V6 x7_2) = 44
                    · rw [if_pos c8] at H
                      have c8b0 : ((bt V6 x7_2) == 44) = true := beq_iff_eq.mpr c8
                      have c8b1 : ((bt V6 x7_2) != 44) = false := bne_eq_false_iff_eq.mpr c8
                      clear c8
                      replace H := Option.bind_eq_some_iff.mp H
                      obtain ⟨t145, A90, H⟩ := H
                      replace H : (if t145.toList = ([] : List UInt8) then (doorkeeperref12_Elements.l1 k2 l0 x3_2 x4_1 (⟨#[]⟩ : ByteArray) V6 (wrap64 (x7_2 + 1))) else ((doorkeeperref02_Trim.f k2 x5_2).bind fun t146 => (if x3_2.length < 8796093022208 then (doorkeeperref12_Elements.l1 k2 l0 (x3_2 ++ [t146]) x4_1 (⟨#[]⟩ : ByteArray) V6 (wrap64 (x7_2 + 1))) else (none)))) = some r := H
                      have A9 := Aside0.mk A90
                      clear A90
                      by_cases c10 : t145.toList = ([] : List UInt8)
                      · rw [if_pos c10] at H
                        have c10b0 : (t145.toList == ([] : List UInt8)) = true := beq_iff_eq.mpr c10
                        have c10b1 : (t145.toList != ([] : List UInt8)) = false := bne_eq_false_iff_eq.mpr c10
                        clear c10
                        have H' := Aside0.mk H
                        clear H
                        have p7 : 0 ≤ (x7_2 : Int) := of_decide_eq_true (by first | (with_reducible assumption) | assumption)
                        have q7 : x7_2 < (V6.size : Int) := of_decide_eq_true (by first | (with_reducible assumption) | assumption)
                        have hx7 := bt_at V6 x7_2
                        replace p7 := eq_true p7
                        replace q7 := eq_true q7
                        go_wp2_with (first | ((with_reducible refine gate_callee (f := 21) rfl ?_); refine goesL_ (some 37) rfl rfl Tryd.func21 (by kernel_rfl) rfl #[.string x5_2] rfl (by (try simp only [List.map_toArray, List.map_cons, List.map_nil]); first | done | rfl | (simp only [List.length_drop, List.length_take]; rfl)) ?_; (with_reducible refine (doorkeeperref02_Trim.calls k2 x5_2 t145 _ A9.out).mono ?_); rintro e w' ⟨rfl, ⟨nd, rfl⟩⟩; refine ⟨_, rfl, ?_⟩))
                        go_roundg k2
                        case measure => have := HK1.out; have := HK2.out; omega
                        case rel => exact ⟨(x3_2), ((⟨#[]⟩ : ByteArray)), (wrap64 (x7_2 + 1)), (by first | rfl | (simp; done) | (simp [*]; done)), (by first | rfl | (simp; done) | (simp [*]; done)), H', ⟨by have := HK1.out; have := HK2.out; omega⟩, ⟨by (with_reducible repeat (first | apply Kd.R_alloc | apply Kd.R_drewN | apply Kd.R_drew)); exact HO_3.out⟩, ⟨by repeat (first | (with_reducible first | exact HB.out | apply below_alloc | apply pw_below_drewN | apply below_drew1) | exact HB.out)⟩⟩
                      · rw [if_neg c10] at H
                        have c10b0 : (t145.toList == ([] : List UInt8)) = false := beq_eq_false_iff_ne.mpr c10
                        have c10b1 : (t145.toList != ([] : List UInt8)) = true := bne_iff_ne.mpr c10
                        replace H := Option.bind_eq_some_iff.mp H
                        obtain ⟨t146, A110, H⟩ := H
                        replace H : (if x3_2.length < 8796093022208 then (doorkeeperref12_Elements.l1 k2 l0 (x3_2 ++ [t146]) x4_1 (⟨#[]⟩ : ByteArray) V6 (wrap64 (x7_2 + 1))) else (none)) = some r := H
                        have A11 := Aside0.mk A110
                        clear A110
                        by_cases c12 : x3_2.length < 8796093022208
                        · rw [if_pos c12] at H
                          have LMc12 := Aside0.mk c12
                          clear c12
                          obtain ⟨y147, hy147⟩ : ∃ y_ : List ByteArray, y_ = (x3_2 ++ [t146]) := ⟨_, rfl⟩
                          replace H : (doorkeeperref12_Elements.l1 k2 l0 y147 x4_1 (⟨#[]⟩ : ByteArray) V6 (wrap64 (x7_2 + 1))) = some r := by first | (rw [hy147]; with_reducible exact H) | (have H2_ := (Option.bind_some _ _).symm.trans H; rw [hy147]; with_reducible exact H2_) | (have H2_ := (Option.bind_some _ _).symm.trans H; with_reducible exact H2_) | with_reducible exact H | (rw [hy147]; exact H) | exact H
                          have Ny147 := Aside0.mk hy147
                          clear hy147
                          have H' := Aside0.mk H
                          clear H
                          have p7 : 0 ≤ (x7_2 : Int) := of_decide_eq_true (by first | (with_reducible assumption) | assumption)
                          have q7 : x7_2 < (V6.size : Int) := of_decide_eq_true (by first | (with_reducible assumption) | assumption)
                          have hx7 := bt_at V6 x7_2
                          replace p7 := eq_true p7
                          replace q7 := eq_true q7
                          go_wp2_with (first | ((with_reducible refine gate_callee (f := 21) rfl ?_); refine goesL_ (some 37) rfl rfl Tryd.func21 (by kernel_rfl) rfl #[.string x5_2] rfl (by (try simp only [List.map_toArray, List.map_cons, List.map_nil]); first | done | rfl | (simp only [List.length_drop, List.length_take]; rfl)) ?_; (with_reducible refine (doorkeeperref02_Trim.calls k2 x5_2 t145 _ A9.out).mono ?_); rintro e w' ⟨rfl, ⟨nd, rfl⟩⟩; refine ⟨_, rfl, ?_⟩) | ((with_reducible refine gate_callee (f := 21) rfl ?_); refine goesL_ (some 41) rfl rfl Tryd.func21 (by kernel_rfl) rfl #[.string x5_2] rfl (by (try simp only [List.map_toArray, List.map_cons, List.map_nil]); first | done | rfl | (simp only [List.length_drop, List.length_take]; rfl)) ?_; (with_reducible refine (doorkeeperref02_Trim.calls k2 x5_2 t146 _ A11.out).mono ?_); rintro e w' ⟨rfl, ⟨nd, rfl⟩⟩; refine ⟨_, rfl, ?_⟩) | ((with_reducible refine gate_builtin (b := .append) (xs := #[.tmp 39, .tmp 42]) rfl ?_); at_builtin; refine Kd.R_append Kd.string (w0 := w) w.heap.size rfl (.tmp 39) (.tmp 42) 22 9 (.string ⟨#[]⟩) 16 rfl Tryd.underlying22 info9 rfl (by decide) (by omega) u3 x3_2 t146 [.string t146] (fun _ => True) (fun _ => False) rfl rfl ?aP (fun _ hk => hk.elim) ?aF ?aO ?aB ?aS ?aL ?_; (case aP => exact rfl); (case aB => exact (by repeat (first | (with_reducible first | exact HB.out | apply below_alloc | apply pw_below_drewN | apply below_drew1) | exact HB.out))); (case aF => exact (fun _ _ => trivial)); (case aO => exact (by (with_reducible repeat (first | apply Kd.R_alloc | apply Kd.R_drewN | apply Kd.R_drew)); exact HO_3.out)); (case aS => exact (below_size (by repeat (first | (with_reducible first | exact HB.out | apply below_alloc | apply pw_below_drewN | apply below_drew1) | exact HB.out)))); (case aL => have := LMc12.out; omega); intro v148 w13 ho hb hg hat; rw [← Ny147.out] at ho; have n0_ := Aside0.mk (hb); have n1_ := Aside0.mk (ho); clear HB; clear HO_3; have HB := n0_; have HO149 := n1_; clear n0_ n1_; clear ho hb hg hat))
                          go_roundg k2
                          case measure => have := HK1.out; have := HK2.out; omega
                          case rel => exact ⟨(y147), ((⟨#[]⟩ : ByteArray)), (wrap64 (x7_2 + 1)), (by first | rfl | (simp; done) | (simp [*]; done)), (by first | rfl | (simp; done) | (simp [*]; done)), H', ⟨by have := HK1.out; have := HK2.out; omega⟩, ⟨by (with_reducible repeat (first | apply Kd.R_alloc | apply Kd.R_drewN | apply Kd.R_drew)); exact HO149.out⟩, ⟨by repeat (first | (with_reducible first | exact HB.out | apply below_alloc | apply pw_below_drewN | apply below_drew1) | exact HB.out)⟩⟩
                        · rw [if_neg c12] at H
                          exact absurd H (by simp)
                    · rw [if_neg c8] at H
                      have c8b0 : ((bt V6 x7_2) == 44) = false := beq_eq_false_iff_ne.mpr c8
                      have c8b1 : ((bt V6 x7_2) != 44) = true := bne_iff_ne.mpr c8
                      have c14b0 := eq_true (of_decide_eq_true (by first | (with_reducible assumption) | assumption) : 0 ≤ x7_2)
                      by_cases c15 : x7_2 ≤ (wrap64 (x7_2 + 1))
                      · rw [if_pos c15] at H
                        have c15b0 := eq_true c15
                        have c15b1 : decide (x7_2 ≤ (wrap64 (x7_2 + 1))) = true := decide_eq_true c15
                        by_cases c16 : (wrap64 (x7_2 + 1)) ≤ (V6.size : Int)
                        · rw [if_pos c16] at H
                          have c16b0 := eq_true c16
                          have c16b1 : decide ((wrap64 (x7_2 + 1)) ≤ (V6.size : Int)) = true := decide_eq_true c16
                          by_cases c17 : x5_2.size + (V6.extract (x7_2 : Int).toNat ((wrap64 (x7_2 + 1)) : Int).toNat).size ≤ 9223372036854775807
                          · rw [if_pos c17] at H
                            have c17b0 := eq_true c17
                            have c17b1 : decide (x5_2.size + (V6.extract (x7_2 : Int).toNat ((wrap64 (x7_2 + 1)) : Int).toNat).size ≤ 9223372036854775807) = true := decide_eq_true c17
                            try have c17b2 : (9223372036854775807 < x5_2.size + (V6.extract (x7_2 : Int).toNat ((wrap64 (x7_2 + 1)) : Int).toNat).size) = False := eq_false (Nat.not_lt.2 c17)
                            have H' := Aside0.mk H
                            clear H
                            have p7 : 0 ≤ (x7_2 : Int) := of_decide_eq_true (by first | (with_reducible assumption) | assumption)
                            have q7 : x7_2 < (V6.size : Int) := of_decide_eq_true (by first | (with_reducible assumption) | assumption)
                            have hx7 := bt_at V6 x7_2
                            replace p7 := eq_true p7
                            replace q7 := eq_true q7
                            go_wp2
                            go_roundg k2
                            case measure => have := HK1.out; have := HK2.out; omega
                            case rel => exact ⟨(x3_2), (x5_2 ++ (V6.extract (x7_2 : Int).toNat ((wrap64 (x7_2 + 1)) : Int).toNat)), (wrap64 (x7_2 + 1)), (by first | rfl | (simp; done) | (simp [*]; done)), (by first | rfl | (simp; done) | (simp [*]; done)), H', ⟨by have := HK1.out; have := HK2.out; omega⟩, ⟨by (with_reducible repeat (first | apply Kd.R_alloc | apply Kd.R_drewN | apply Kd.R_drew)); exact HO_3.out⟩, ⟨by repeat (first | (with_reducible first | exact HB.out | apply below_alloc | apply pw_below_drewN | apply below_drew1) | exact HB.out)⟩⟩
                          · rw [if_neg c17] at H
                            exact absurd H (by simp)
                        · rw [if_neg c16] at H
                          exact absurd H (by simp)
                      · rw [if_neg c15] at H
                        exact absurd H (by simp)
                  · rw [if_neg c6] at H
                    exact absurd H (by simp)
                · rw [if_neg c5] at H
                  have c5b0 : decide (x7_2 < (V6.size : Int)) = false := decide_eq_false c5
                  clear c5
                  have H' := Aside0.mk H
                  clear H
                  go_wp2
                  go_roundg k2
                  case measure => have := HK1.out; have := HK2.out; omega
                  case rel => exact ⟨(x3_2), (wrap64 (x4_1 + 1)), (by first | rfl | (simp; done) | (simp [*]; done)), H', ⟨by have := HK1.out; have := HK2.out; omega⟩, ⟨by (with_reducible repeat (first | apply Kd.R_alloc | apply Kd.R_drewN | apply Kd.R_drew)); exact HO_3.out⟩, ⟨by repeat (first | (with_reducible first | exact HB.out | apply below_alloc | apply pw_below_drewN | apply below_drew1) | exact HB.out)⟩⟩
          · rw [if_neg c4] at H
            exact absurd H (by simp)
        · rw [if_neg c3] at H
          exact absurd H (by simp)
      · rw [if_neg c2] at H
        have c2b0 : decide (x4_1 < (l0.length : Int)) = false := decide_eq_false c2
        clear c2
        obtain rfl := Option.some.inj H
        go_wp2
        go_ret
        exact ⟨_, by first | rfl | (simp [errW_none, errW_some] <;> rfl) | (simp [*, errW_none, errW_some] <;> rfl), by (with_reducible repeat (first | apply Kd.R_alloc | apply Kd.R_drewN | apply Kd.R_drew)); exact HO_3.out, by repeat (first | (with_reducible first | exact HB.out | apply below_alloc | apply pw_below_drewN | apply below_drew1) | exact HB.out)⟩

end Go.Proofs.YthilbpgkhjchcaaDoor.P
end

section
namespace Go.Proofs.YthilbpgkhjchcaaDoor.P
open Go.RowKit Go.Proofs.YthilbpgkhjchcaaDoorW.PrintWords Go.Proofs.YthilbpgkhjchcaaDoorW.PrintLast Go.Proofs.YthilbpgkhjchcaaDoorW.PrintMore
attribute [local go_sem] max2_int min2_int max_two min_two max_three min_three max_four min_four   -- for this text's walks alone
set_option linter.unusedVariables false
set_option linter.unusedSimpArgs false

/-! ### doorkeeperref12_Tokens: function 11 -/
def doorkeeperref12_Tokens.l0 : Nat → List ByteArray → List ByteArray → Int → Option (List ByteArray × Bool)
  | 0, _, _, _ => none
  | k + 1, x4, x5, x6 => if x6 < (x4.length : Int) then (if 0 ≤ x6 then ((doorkeeperref02_IsToken.f k (rdOf ByteArray.empty x4 x6)).bind fun t171 => (if t171 = true then ((doorkeeperref02_Lower.f k (rdOf ByteArray.empty x4 x6)).bind fun t173 => (if x5.length < 8796093022208 then (doorkeeperref12_Tokens.l0 k x4 (x5 ++ [t173]) (wrap64 (x6 + 1))) else (none))) else (some (([] : List ByteArray), false)))) else (none)) else (some (x5, decide ((x4.length : Int) > 0)))
def doorkeeperref12_Tokens.f (k : Nat) (l0 : List ByteArray) : Option (List ByteArray × Bool) := (doorkeeperref12_Elements.f k l0).bind fun t167 => (doorkeeperref12_Tokens.l0 k t167 ([] : List ByteArray) 0)
theorem doorkeeperref12_Tokens.mono_l : ∀ k, (∀ y0 y1 y2, LeO (doorkeeperref12_Tokens.l0 k y0 y1 y2) (doorkeeperref12_Tokens.l0 (k + 1) y0 y1 y2))
  | 0 => fun _ _ _ r h => by simp [doorkeeperref12_Tokens.l0] at h
  | k + 1 => by
    have ih0 := doorkeeperref12_Tokens.mono_l k
    · intro y0 y1 y2
      unfold doorkeeperref12_Tokens.l0
      repeat' first
      | (with_reducible exact ih0 _ _ _)
      | (with_reducible exact doorkeeperref02_IsToken.mono _ _)
      | (with_reducible exact doorkeeperref02_Lower.mono _ _)
      | (with_reducible exact doorkeeperref12_Elements.mono _ _)
      | (with_reducible exact LeO.refl _)
      | (with_reducible exact LeO.none _)
      | (with_reducible refine LeO.ite ?_ ?_)
      | (with_reducible refine LeO.bind ?_ (fun _ => ?_))
      | exact ih0 _ _ _
      | exact doorkeeperref02_IsToken.mono _ _
      | exact doorkeeperref02_Lower.mono _ _
      | exact doorkeeperref12_Elements.mono _ _
      | exact LeO.none _
      | refine LeO.ite ?_ ?_
      | refine LeO.bind ?_ (fun _ => ?_)
theorem doorkeeperref12_Tokens.mono : ∀ a0 k, LeO (doorkeeperref12_Tokens.f k a0) (doorkeeperref12_Tokens.f (k + 1) a0) := by
  intro a0 k
  have ih0 := doorkeeperref12_Tokens.mono_l k
  unfold doorkeeperref12_Tokens.f
  repeat' first
      | (with_reducible exact ih0 _ _ _)
      | (with_reducible exact doorkeeperref02_IsToken.mono _ _)
      | (with_reducible exact doorkeeperref02_Lower.mono _ _)
      | (with_reducible exact doorkeeperref12_Elements.mono _ _)
      | (with_reducible exact LeO.refl _)
      | (with_reducible exact LeO.none _)
      | (with_reducible refine LeO.ite ?_ ?_)
      | (with_reducible refine LeO.bind ?_ (fun _ => ?_))
      | exact ih0 _ _ _
      | exact doorkeeperref02_IsToken.mono _ _
      | exact doorkeeperref02_Lower.mono _ _
      | exact doorkeeperref12_Elements.mono _ _
      | exact LeO.none _
      | refine LeO.ite ?_ ?_
      | refine LeO.bind ?_ (fun _ => ?_)
set_option maxHeartbeats 8000000 in
set_option maxRecDepth 100000 in
theorem doorkeeperref12_Tokens.calls (k : Nat) (A0 : Option Addr) (c0 : Nat) (l0 : List ByteArray) (r1 : List ByteArray) (r2 : Bool) (w : World) (hr0 : Kd.C Kd.string w A0 l0.length l0) (hc0 : l0.length ≤ c0) (h : doorkeeperref12_Tokens.f k l0 = some (r1, r2)) :
    Calls Tryd.prog 11 #[.slice A0 l0.length c0] w fun e w' => ∃ v0_ : Value, e = .returned (.tuple #[v0_, .bool r2]) ∧ Kd.R Kd.string 9 w' w.heap.size (fun _ => True) v0_ r1 ∧ Below w.heap.size w w' := by
  have HR0 := Aside0.mk hr0
  have HC0 := Aside0.mk hc0
  clear hr0 hc0
  have HB := Aside0.mk (Below.refl w.heap.size w)
  have H : ((doorkeeperref12_Elements.f k l0).bind fun t167 => (doorkeeperref12_Tokens.l0 k t167 ([] : List ByteArray) 0)) = some (r1, r2) := h
  clear h
  replace H := Option.bind_eq_some_iff.mp H
  obtain ⟨t167, A20, H⟩ := H
  replace H : (doorkeeperref12_Tokens.l0 k t167 ([] : List ByteArray) 0) = some (r1, r2) := H
  have A2 := Aside0.mk A20
  clear A20
  have H' := Aside0.mk H
  clear H
  go_enter Tryd.func11, Tryd.ntmps11
  go_wp2_with (first | ((with_reducible refine gate_callee (f := 14) rfl ?_); refine goesL_ (some 8) rfl rfl Tryd.func14 (by kernel_rfl) rfl #[.slice A0 l0.length c0] rfl (by (try simp only [List.map_toArray, List.map_cons, List.map_nil]); first | done | rfl | (simp only [List.length_drop, List.length_take]; rfl)) ?_; (with_reducible refine (doorkeeperref12_Elements.calls k _ _ l0 t167 _ ?side1 ?side2 A2.out).mono ?_); (case side1 => repeat (first | exact HR0.out | (with_reducible refine Kd.C_alloc ?_ _) | (with_reducible refine Kd.C_drewN ?_ _) | (with_reducible refine Kd.C_drew ?_))); (case side2 => exact HC0.out); rintro e w3 ⟨v168, rfl, ho0, hb⟩; refine ⟨_, rfl, ?_⟩; have n0_ := Aside0.mk (Kd.R_lower ho0 (below_size (by repeat (first | (with_reducible first | exact HB.out | apply below_alloc | apply pw_below_drewN | apply below_drew1) | exact HB.out)))); have n1_ := Aside0.mk (below_step (by repeat (first | (with_reducible first | exact HB.out | apply below_alloc | apply pw_below_drewN | apply below_drew1) | exact HB.out)) hb); clear HB; have HO169 := n0_; have HB := n1_; clear n0_ n1_; (try clear hb); (try clear hb2); (try clear hk); (try clear hi); (try clear ho0)))
  go_loopg [5, 6] k (fun kq v5 v6 w' => ∃ (x5_1 : List ByteArray) (x6_1 : Int), v6 = .int .i64 x6_1 ∧ Aside0 (doorkeeperref12_Tokens.l0 kq t167 x5_1 x6_1 = some (r1, r2)) ∧ Aside0 (kq ≤ k) ∧ Aside0 (Kd.R Kd.string 9 w' w.heap.size (fun k_ => some k_ ≠ (v5 : Value).ownBlock) v168 t167) ∧ Aside0 (Kd.R Kd.string 9 w' w.heap.size (fun k_ => some k_ ≠ (v168 : Value).ownBlock) v5 x5_1) ∧ Aside0 (Below w.heap.size w w'))
  case atStart => exact ⟨(([] : List ByteArray)), (0), (by first | rfl | (simp; done) | (simp [*]; done)), H', ⟨Nat.le_refl _⟩, ⟨by (with_reducible repeat (first | apply Kd.R_alloc | apply Kd.R_drewN | apply Kd.R_drew)); exact Kd.R_mono HO169.out (fun _ hk => (by simp [Value.ownBlock]))⟩, ⟨by first | exact Kd.R_nil _ _ _ _ _ | exact Kd.N_nil _ _ _ _ _ | exact Kd.V_nil _ _ _ _ _ | exact Kd.Q_nil _ _ _ _ _ | exact Kd.S_nil _ _ _ _ _⟩, ⟨by repeat (first | (with_reducible first | exact HB.out | apply below_alloc | apply pw_below_drewN | apply below_drew1) | exact HB.out)⟩⟩
  case round =>
    clear H'
    try clear c1
    try clear p2
    obtain ⟨x5_1, x6_1, rfl, HA, HK1, HO_4, HO_5, HB⟩ := hrel
    cases gk with
    | zero => exact absurd HA.out (by simp [doorkeeperref12_Tokens.l0])
    | succ k1 =>
      have H := HA.out
      clear HA
      simp only [doorkeeperref12_Tokens.l0] at H
      by_cases c4 : x6_1 < (t167.length : Int)
      · rw [if_pos c4] at H
        have c4b0 : decide (x6_1 < (t167.length : Int)) = true := decide_eq_true c4
        clear c4
        by_cases c5 : 0 ≤ x6_1
        · rw [if_pos c5] at H
          have c5b0 : decide (0 ≤ x6_1) = true := decide_eq_true c5
          clear c5
          replace H := Option.bind_eq_some_iff.mp H
          obtain ⟨t171, A60, H⟩ := H
          replace H : (if t171 = true then ((doorkeeperref02_Lower.f k1 (rdOf ByteArray.empty t167 x6_1)).bind fun t173 => (if x5_1.length < 8796093022208 then (doorkeeperref12_Tokens.l0 k1 t167 (x5_1 ++ [t173]) (wrap64 (x6_1 + 1))) else (none))) else (some (([] : List ByteArray), false))) = some (r1, r2) := H
          have A6 := Aside0.mk A60
          clear A60
          by_cases c7 : t171 = true
          · subst c7
            have H1 : ((doorkeeperref02_Lower.f k1 (rdOf ByteArray.empty t167 x6_1)).bind fun t173 => (if x5_1.length < 8796093022208 then (doorkeeperref12_Tokens.l0 k1 t167 (x5_1 ++ [t173]) (wrap64 (x6_1 + 1))) else (none))) = some (r1, r2) := by rw [if_pos rfl] at H; exact H
            clear H
            have H := H1
            clear H1
            replace H := Option.bind_eq_some_iff.mp H
            obtain ⟨t173, A80, H⟩ := H
            replace H : (if x5_1.length < 8796093022208 then (doorkeeperref12_Tokens.l0 k1 t167 (x5_1 ++ [t173]) (wrap64 (x6_1 + 1))) else (none)) = some (r1, r2) := H
            have A8 := Aside0.mk A80
            clear A80
            by_cases c9 : x5_1.length < 8796093022208
            · rw [if_pos c9] at H
              have LMc9 := Aside0.mk c9
              clear c9
              obtain ⟨y174, hy174⟩ : ∃ y_ : List ByteArray, y_ = (x5_1 ++ [t173]) := ⟨_, rfl⟩
              replace H : (doorkeeperref12_Tokens.l0 k1 t167 y174 (wrap64 (x6_1 + 1))) = some (r1, r2) := by first | (rw [hy174]; with_reducible exact H) | (have H2_ := (Option.bind_some _ _).symm.trans H; rw [hy174]; with_reducible exact H2_) | (have H2_ := (Option.bind_some _ _).symm.trans H; with_reducible exact H2_) | with_reducible exact H | (rw [hy174]; exact H) | exact H
              have Ny174 := Aside0.mk hy174
              clear hy174
              have H' := Aside0.mk H
              clear H
              obtain ⟨Ao10, co10, eo10⟩ := Kd.R_slice HO_4.out
              subst eo10
              have p170 : 0 ≤ (x6_1 : Int) := of_decide_eq_true (by first | (with_reducible assumption) | assumption)
              have q170 : x6_1 < (t167.length : Int) := of_decide_eq_true (by first | (with_reducible assumption) | assumption)
              obtain ⟨ad170, e170, hx170_0⟩ := Kd.at_string (Kd.R_reads' HO_4.out).2.2 x6_1 p170 q170
              cases e170
              replace p170 := eq_true p170
              replace q170 := eq_true q170
              go_wp2_with (first | ((with_reducible refine gate_callee (f := 19) rfl ?_); refine goesL_ (some 19) rfl rfl Tryd.func19 (by kernel_rfl) rfl #[.string (rdOf ByteArray.empty t167 x6_1)] rfl (by (try simp only [List.map_toArray, List.map_cons, List.map_nil]); first | done | rfl | (simp only [List.length_drop, List.length_take]; rfl)) ?_; (with_reducible refine (doorkeeperref02_IsToken.calls k1 (rdOf ByteArray.empty t167 x6_1) true _ A6.out).mono ?_); rintro e w' ⟨rfl, ⟨nd, rfl⟩⟩; refine ⟨_, rfl, ?_⟩; have p172 : 0 ≤ (x6_1 : Int) := of_decide_eq_true (by first | (with_reducible assumption) | assumption); have q172 : x6_1 < (t167.length : Int) := of_decide_eq_true (by first | (with_reducible assumption) | assumption); obtain ⟨ad172, e172, hx172_0⟩ := Kd.at_string (Kd.R_reads' HO_4.out).2.2 x6_1 p172 q172; obtain rfl : ad170 = ad172 := (by injection e172); replace p172 := eq_true p172; replace q172 := eq_true q172) | ((with_reducible refine gate_callee (f := 20) rfl ?_); refine goesL_ (some 26) rfl rfl Tryd.func20 (by kernel_rfl) rfl #[.string (rdOf ByteArray.empty t167 x6_1)] rfl (by (try simp only [List.map_toArray, List.map_cons, List.map_nil]); first | done | rfl | (simp only [List.length_drop, List.length_take]; rfl)) ?_; (with_reducible refine (doorkeeperref02_Lower.calls k1 (rdOf ByteArray.empty t167 x6_1) t173 _ A8.out).mono ?_); rintro e w11 ⟨rfl, hb⟩; refine ⟨_, rfl, ?_⟩; have n0_ := Aside0.mk (Kd.R_below (by (with_reducible repeat (first | apply Kd.R_alloc | apply Kd.R_drewN | apply Kd.R_drew)); exact HO_4.out) hb); have n1_ := Aside0.mk (Kd.R_below (by (with_reducible repeat (first | apply Kd.R_alloc | apply Kd.R_drewN | apply Kd.R_drew)); exact HO_5.out) hb); have n2_ := Aside0.mk (below_step (by repeat (first | (with_reducible first | exact HB.out | apply below_alloc | apply pw_below_drewN | apply below_drew1) | exact HB.out)) hb); clear HO_4; clear HO_5; clear HB; have HO_4 := n0_; have HO_5 := n1_; have HB := n2_; clear n0_ n1_ n2_; (try clear hb); (try clear hb2); (try clear hk); (try clear hi)) | ((with_reducible refine gate_builtin (b := .append) (xs := #[.tmp 21, .tmp 27]) rfl ?_); at_builtin; refine Kd.R_append Kd.string (w0 := w) w.heap.size rfl (.tmp 21) (.tmp 27) 22 9 (.string ⟨#[]⟩) 16 rfl Tryd.underlying22 info9 rfl (by decide) (by omega) u5 x5_1 t173 [.string t173] (fun k_ => some k_ ≠ (.slice (some ad170) t167.length co10 : Value).ownBlock) (fun _ => False) rfl rfl ?aP (fun _ hk => hk.elim) ?aF ?aO ?aB ?aS ?aL ?_; (case aP => exact rfl); (case aB => exact (by repeat (first | (with_reducible first | exact HB.out | apply below_alloc | apply pw_below_drewN | apply below_drew1) | exact HB.out))); (case aF => exact (fun k_ hk => Kd.fresh' (Kd.R_lt (by (with_reducible repeat (first | apply Kd.R_alloc | apply Kd.R_drewN | apply Kd.R_drew)); exact HO_4.out)) k_ hk)); (case aO => exact (by (with_reducible repeat (first | apply Kd.R_alloc | apply Kd.R_drewN | apply Kd.R_drew)); exact HO_5.out)); (case aS => exact (below_size (by repeat (first | (with_reducible first | exact HB.out | apply below_alloc | apply pw_below_drewN | apply below_drew1) | exact HB.out)))); (case aL => have := LMc9.out; omega); intro v175 w12 ho hb hg hat; rw [← Ny174.out] at ho; have n0_ := Aside0.mk (Kd.R_after (ok := (fun _ => True)) (by (with_reducible repeat (first | apply Kd.R_alloc | apply Kd.R_drewN | apply Kd.R_drew)); exact Kd.R_mono HO_4.out (fun _ hk => ⟨trivial, hk⟩)) hg hat); have n1_ := Aside0.mk (hb); have n2_ := Aside0.mk (ho); clear HO_4; clear HB; clear HO_5; have HO_4 := n0_; have HB := n1_; have HO176 := n2_; clear n0_ n1_ n2_; clear ho hb hg hat))
              go_roundg k1
              case measure => have := HK1.out; omega
              case rel => exact ⟨(y174), (wrap64 (x6_1 + 1)), (by first | rfl | (simp; done) | (simp [*]; done)), H', ⟨by have := HK1.out; omega⟩, ⟨by (with_reducible repeat (first | apply Kd.R_alloc | apply Kd.R_drewN | apply Kd.R_drew)); exact Kd.R_mono HO_4.out (fun _ hk => hk.2)⟩, ⟨by (with_reducible repeat (first | apply Kd.R_alloc | apply Kd.R_drewN | apply Kd.R_drew)); exact HO176.out⟩, ⟨by repeat (first | (with_reducible first | exact HB.out | apply below_alloc | apply pw_below_drewN | apply below_drew1) | exact HB.out)⟩⟩
            · rw [if_neg c9] at H
              exact absurd H (by simp)
          · replace c7 := Bool.eq_false_iff.mpr c7
            subst c7
            have H1 : (some (([] : List ByteArray), false)) = some (r1, r2) := by rw [if_neg (show ¬ (false = true) by decide)] at H; exact H
            clear H
            have H := H1
            clear H1
            simp only [Option.some.injEq, Prod.mk.injEq] at H
            obtain ⟨rfl, rfl⟩ := H
            obtain ⟨Ao13, co13, eo13⟩ := Kd.R_slice HO_4.out
            subst eo13
            have p170 : 0 ≤ (x6_1 : Int) := of_decide_eq_true (by first | (with_reducible assumption) | assumption)
            have q170 : x6_1 < (t167.length : Int) := of_decide_eq_true (by first | (with_reducible assumption) | assumption)
            obtain ⟨ad170, e170, hx170_0⟩ := Kd.at_string (Kd.R_reads' HO_4.out).2.2 x6_1 p170 q170
            cases e170
            replace p170 := eq_true p170
            replace q170 := eq_true q170
            go_wp2_with (first | ((with_reducible refine gate_callee (f := 19) rfl ?_); refine goesL_ (some 19) rfl rfl Tryd.func19 (by kernel_rfl) rfl #[.string (rdOf ByteArray.empty t167 x6_1)] rfl (by (try simp only [List.map_toArray, List.map_cons, List.map_nil]); first | done | rfl | (simp only [List.length_drop, List.length_take]; rfl)) ?_; (with_reducible refine (doorkeeperref02_IsToken.calls k1 (rdOf ByteArray.empty t167 x6_1) false _ A6.out).mono ?_); rintro e w' ⟨rfl, ⟨nd, rfl⟩⟩; refine ⟨_, rfl, ?_⟩))
            go_ret2
            exact ⟨_, by first | rfl | (simp [errW_none, errW_some] <;> rfl) | (simp [*, errW_none, errW_some] <;> rfl), by first | exact Kd.R_nil _ _ _ _ _ | exact Kd.N_nil _ _ _ _ _ | exact Kd.V_nil _ _ _ _ _ | exact Kd.Q_nil _ _ _ _ _ | exact Kd.S_nil _ _ _ _ _, by repeat (first | (with_reducible first | exact HB.out | apply below_alloc | apply pw_below_drewN | apply below_drew1) | exact HB.out)⟩
        · rw [if_neg c5] at H
          exact absurd H (by simp)
      · rw [if_neg c4] at H
        have c4b0 : decide (x6_1 < (t167.length : Int)) = false := decide_eq_false c4
        clear c4
        simp only [Option.some.injEq, Prod.mk.injEq] at H
        obtain ⟨rfl, rfl⟩ := H
        obtain ⟨Ao14, co14, eo14⟩ := Kd.R_slice HO_4.out
        subst eo14
        go_wp2
        go_ret2
        exact ⟨_, by first | rfl | (simp [errW_none, errW_some] <;> rfl) | (simp [*, errW_none, errW_some] <;> rfl), by (with_reducible repeat (first | apply Kd.R_alloc | apply Kd.R_drewN | apply Kd.R_drew)); exact Kd.R_mono HO_5.out (fun _ hk => trivial), by repeat (first | (with_reducible first | exact HB.out | apply below_alloc | apply pw_below_drewN | apply below_drew1) | exact HB.out)⟩

end Go.Proofs.YthilbpgkhjchcaaDoor.P
end

section
namespace Go.Proofs.YthilbpgkhjchcaaDoor.P
open Go.RowKit Go.Proofs.YthilbpgkhjchcaaDoorW.PrintWords Go.Proofs.YthilbpgkhjchcaaDoorW.PrintLast Go.Proofs.YthilbpgkhjchcaaDoorW.PrintMore
attribute [local go_sem] max2_int min2_int max_two min_two max_three min_three max_four min_four   -- for this text's walks alone
set_option linter.unusedVariables false
set_option linter.unusedSimpArgs false

/-! ### doorkeeperref12_Has: function 16 -/
def doorkeeperref12_Has.l0 : Nat → ByteArray → List ByteArray → Int → Option (Bool)
  | 0, _, _, _ => none
  | k + 1, x0, x5, x6 => if x6 < (x5.length : Int) then (if 0 ≤ x6 then ((doorkeeperref02_Lower.f k (rdOf ByteArray.empty x5 x6)).bind fun t181 => ((doorkeeperref02_Lower.f k x0).bind fun t182 => (if t181.toList = t182.toList then (some true) else (doorkeeperref12_Has.l0 k x0 x5 (wrap64 (x6 + 1)))))) else (none)) else (some false)
def doorkeeperref12_Has.f (k : Nat) (a0 : ByteArray) (l1 : List ByteArray) : Option (Bool) := (doorkeeperref12_Elements.f k l1).bind fun t177 => (doorkeeperref12_Has.l0 k a0 t177 0)
theorem doorkeeperref12_Has.mono_l : ∀ k, (∀ y0 y1 y2, LeO (doorkeeperref12_Has.l0 k y0 y1 y2) (doorkeeperref12_Has.l0 (k + 1) y0 y1 y2))
  | 0 => fun _ _ _ r h => by simp [doorkeeperref12_Has.l0] at h
  | k + 1 => by
    have ih0 := doorkeeperref12_Has.mono_l k
    · intro y0 y1 y2
      unfold doorkeeperref12_Has.l0
      repeat' first
      | (with_reducible exact ih0 _ _ _)
      | (with_reducible exact doorkeeperref02_Lower.mono _ _)
      | (with_reducible exact doorkeeperref12_Elements.mono _ _)
      | (with_reducible exact LeO.refl _)
      | (with_reducible exact LeO.none _)
      | (with_reducible refine LeO.ite ?_ ?_)
      | (with_reducible refine LeO.bind ?_ (fun _ => ?_))
      | exact ih0 _ _ _
      | exact doorkeeperref02_Lower.mono _ _
      | exact doorkeeperref12_Elements.mono _ _
      | exact LeO.none _
      | refine LeO.ite ?_ ?_
      | refine LeO.bind ?_ (fun _ => ?_)
theorem doorkeeperref12_Has.mono : ∀ a0 a1 k, LeO (doorkeeperref12_Has.f k a0 a1) (doorkeeperref12_Has.f (k + 1) a0 a1) := by
  intro a0 a1 k
  have ih0 := doorkeeperref12_Has.mono_l k
  unfold doorkeeperref12_Has.f
  repeat' first
      | (with_reducible exact ih0 _ _ _)
      | (with_reducible exact doorkeeperref02_Lower.mono _ _)
      | (with_reducible exact doorkeeperref12_Elements.mono _ _)
      | (with_reducible exact LeO.refl _)
      | (with_reducible exact LeO.none _)
      | (with_reducible refine LeO.ite ?_ ?_)
      | (with_reducible refine LeO.bind ?_ (fun _ => ?_))
      | exact ih0 _ _ _
      | exact doorkeeperref02_Lower.mono _ _
      | exact doorkeeperref12_Elements.mono _ _
      | exact LeO.none _
      | refine LeO.ite ?_ ?_
      | refine LeO.bind ?_ (fun _ => ?_)
set_option maxHeartbeats 8000000 in
set_option maxRecDepth 100000 in
theorem doorkeeperref12_Has.calls (k : Nat) (a0 : ByteArray) (A1 : Option Addr) (c1 : Nat) (l1 : List ByteArray) (r : Bool) (w : World) (hr1 : Kd.C Kd.string w A1 l1.length l1) (hc1 : l1.length ≤ c1) (h : doorkeeperref12_Has.f k a0 l1 = some r) :
    Calls Tryd.prog 16 #[.string a0, .slice A1 l1.length c1] w fun e w' => e = .returned (.bool r) ∧ Below w.heap.size w w' := by
  have HR1 := Aside0.mk hr1
  have HC1 := Aside0.mk hc1
  clear hr1 hc1
  have HB := Aside0.mk (Below.refl w.heap.size w)
  have H : ((doorkeeperref12_Elements.f k l1).bind fun t177 => (doorkeeperref12_Has.l0 k a0 t177 0)) = some r := h
  clear h
  replace H := Option.bind_eq_some_iff.mp H
  obtain ⟨t177, A30, H⟩ := H
  replace H : (doorkeeperref12_Has.l0 k a0 t177 0) = some r := H
  have A3 := Aside0.mk A30
  clear A30
  have H' := Aside0.mk H
  clear H
  go_enter Tryd.func16, Tryd.ntmps16
  go_wp2_with (first | ((with_reducible refine gate_callee (f := 14) rfl ?_); refine goesL_ (some 8) rfl rfl Tryd.func14 (by kernel_rfl) rfl #[.slice A1 l1.length c1] rfl (by (try simp only [List.map_toArray, List.map_cons, List.map_nil]); first | done | rfl | (simp only [List.length_drop, List.length_take]; rfl)) ?_; (with_reducible refine (doorkeeperref12_Elements.calls k _ _ l1 t177 _ ?side1 ?side2 A3.out).mono ?_); (case side1 => repeat (first | exact HR1.out | (with_reducible refine Kd.C_alloc ?_ _) | (with_reducible refine Kd.C_drewN ?_ _) | (with_reducible refine Kd.C_drew ?_))); (case side2 => exact HC1.out); rintro e w4 ⟨v178, rfl, ho0, hb⟩; refine ⟨_, rfl, ?_⟩; have n0_ := Aside0.mk (Kd.R_lower ho0 (below_size (by repeat (first | (with_reducible first | exact HB.out | apply below_alloc | apply pw_below_drewN | apply below_drew1) | exact HB.out)))); have n1_ := Aside0.mk (below_step (by repeat (first | (with_reducible first | exact HB.out | apply below_alloc | apply pw_below_drewN | apply below_drew1) | exact HB.out)) hb); clear HB; have HO179 := n0_; have HB := n1_; clear n0_ n1_; (try clear hb); (try clear hb2); (try clear hk); (try clear hi); (try clear ho0)))
  go_loopg [6] k (fun kq v6 w' => ∃ (x6_1 : Int), v6 = .int .i64 x6_1 ∧ Aside0 (doorkeeperref12_Has.l0 kq a0 t177 x6_1 = some r) ∧ Aside0 (kq ≤ k) ∧ Aside0 (Kd.R Kd.string 9 w' w.heap.size (fun _ => True) v178 t177) ∧ Aside0 (Below w.heap.size w w'))
  case atStart => exact ⟨(0), (by first | rfl | (simp; done) | (simp [*]; done)), H', ⟨Nat.le_refl _⟩, ⟨by (with_reducible repeat (first | apply Kd.R_alloc | apply Kd.R_drewN | apply Kd.R_drew)); exact HO179.out⟩, ⟨by repeat (first | (with_reducible first | exact HB.out | apply below_alloc | apply pw_below_drewN | apply below_drew1) | exact HB.out)⟩⟩
  case round =>
    clear H'
    try clear c1
    try clear p2
    obtain ⟨x6_1, rfl, HA, HK1, HO_5, HB⟩ := hrel
    cases gk with
    | zero => exact absurd HA.out (by simp [doorkeeperref12_Has.l0])
    | succ k1 =>
      have H := HA.out
      clear HA
      simp only [doorkeeperref12_Has.l0] at H
      by_cases c5 : x6_1 < (t177.length : Int)
      · rw [if_pos c5] at H
        have c5b0 : decide (x6_1 < (t177.length : Int)) = true := decide_eq_true c5
        clear c5
        by_cases c6 : 0 ≤ x6_1
        · rw [if_pos c6] at H
          have c6b0 : decide (0 ≤ x6_1) = true := decide_eq_true c6
          clear c6
          replace H := Option.bind_eq_some_iff.mp H
          obtain ⟨t181, A70, H⟩ := H
          replace H : ((doorkeeperref02_Lower.f k1 a0).bind fun t182 => (if t181.toList = t182.toList then (some true) else (doorkeeperref12_Has.l0 k1 a0 t177 (wrap64 (x6_1 + 1))))) = some r := H
          have A7 := Aside0.mk A70
          clear A70
          replace H := Option.bind_eq_some_iff.mp H
          obtain ⟨t182, A80, H⟩ := H
          replace H : (if t181.toList = t182.toList then (some true) else (doorkeeperref12_Has.l0 k1 a0 t177 (wrap64 (x6_1 + 1)))) = some r := H
          have A8 := Aside0.mk A80
          clear A80
          by_cases c9 : t181.toList = t182.toList
          · rw [if_pos c9] at H
            have c9b0 : (t181.toList == t182.toList) = true := beq_iff_eq.mpr c9
            have c9b1 : (t181.toList != t182.toList) = false := bne_eq_false_iff_eq.mpr c9
            clear c9
            obtain rfl := Option.some.inj H
            obtain ⟨Ao10, co10, eo10⟩ := Kd.R_slice HO_5.out
            subst eo10
            have p180 : 0 ≤ (x6_1 : Int) := of_decide_eq_true (by first | (with_reducible assumption) | assumption)
            have q180 : x6_1 < (t177.length : Int) := of_decide_eq_true (by first | (with_reducible assumption) | assumption)
            obtain ⟨ad180, e180, hx180_0⟩ := Kd.at_string (Kd.R_reads' HO_5.out).2.2 x6_1 p180 q180
            cases e180
            replace p180 := eq_true p180
            replace q180 := eq_true q180
            go_wp2_with (first | ((with_reducible refine gate_callee (f := 20) rfl ?_); refine goesL_ (some 19) rfl rfl Tryd.func20 (by kernel_rfl) rfl #[.string (rdOf ByteArray.empty t177 x6_1)] rfl (by (try simp only [List.map_toArray, List.map_cons, List.map_nil]); first | done | rfl | (simp only [List.length_drop, List.length_take]; rfl)) ?_; (with_reducible refine (doorkeeperref02_Lower.calls k1 (rdOf ByteArray.empty t177 x6_1) t181 _ A7.out).mono ?_); rintro e w11 ⟨rfl, hb⟩; refine ⟨_, rfl, ?_⟩; have n0_ := Aside0.mk (Kd.R_below (by (with_reducible repeat (first | apply Kd.R_alloc | apply Kd.R_drewN | apply Kd.R_drew)); exact HO_5.out) hb); have n1_ := Aside0.mk (below_step (by repeat (first | (with_reducible first | exact HB.out | apply below_alloc | apply pw_below_drewN | apply below_drew1) | exact HB.out)) hb); clear HO_5; clear HB; have HO_5 := n0_; have HB := n1_; clear n0_ n1_; (try clear hb); (try clear hb2); (try clear hk); (try clear hi)) | ((with_reducible refine gate_callee (f := 20) rfl ?_); refine goesL_ (some 21) rfl rfl Tryd.func20 (by kernel_rfl) rfl #[.string a0] rfl (by (try simp only [List.map_toArray, List.map_cons, List.map_nil]); first | done | rfl | (simp only [List.length_drop, List.length_take]; rfl)) ?_; (with_reducible refine (doorkeeperref02_Lower.calls k1 a0 t182 _ A8.out).mono ?_); rintro e w12 ⟨rfl, hb⟩; refine ⟨_, rfl, ?_⟩; have n0_ := Aside0.mk (Kd.R_below (by (with_reducible repeat (first | apply Kd.R_alloc | apply Kd.R_drewN | apply Kd.R_drew)); exact HO_5.out) hb); have n1_ := Aside0.mk (below_step (by repeat (first | (with_reducible first | exact HB.out | apply below_alloc | apply pw_below_drewN | apply below_drew1) | exact HB.out)) hb); clear HO_5; clear HB; have HO_5 := n0_; have HB := n1_; clear n0_ n1_; (try clear hb); (try clear hb2); (try clear hk); (try clear hi)))
            go_ret
            exact ⟨by first | rfl | (simp [errW_none, errW_some] <;> rfl) | (simp [*, errW_none, errW_some] <;> rfl), by repeat (first | (with_reducible first | exact HB.out | apply below_alloc | apply pw_below_drewN | apply below_drew1) | exact HB.out)⟩
          · rw [if_neg c9] at H
            have c9b0 : (t181.toList == t182.toList) = false := beq_eq_false_iff_ne.mpr c9
            have c9b1 : (t181.toList != t182.toList) = true := bne_iff_ne.mpr c9
            have H' := Aside0.mk H
            clear H
            obtain ⟨Ao13, co13, eo13⟩ := Kd.R_slice HO_5.out
            subst eo13
            have p180 : 0 ≤ (x6_1 : Int) := of_decide_eq_true (by first | (with_reducible assumption) | assumption)
            have q180 : x6_1 < (t177.length : Int) := of_decide_eq_true (by first | (with_reducible assumption) | assumption)
            obtain ⟨ad180, e180, hx180_0⟩ := Kd.at_string (Kd.R_reads' HO_5.out).2.2 x6_1 p180 q180
            cases e180
            replace p180 := eq_true p180
            replace q180 := eq_true q180
            go_wp2_with (first | ((with_reducible refine gate_callee (f := 20) rfl ?_); refine goesL_ (some 19) rfl rfl Tryd.func20 (by kernel_rfl) rfl #[.string (rdOf ByteArray.empty t177 x6_1)] rfl (by (try simp only [List.map_toArray, List.map_cons, List.map_nil]); first | done | rfl | (simp only [List.length_drop, List.length_take]; rfl)) ?_; (with_reducible refine (doorkeeperref02_Lower.calls k1 (rdOf ByteArray.empty t177 x6_1) t181 _ A7.out).mono ?_); rintro e w14 ⟨rfl, hb⟩; refine ⟨_, rfl, ?_⟩; have n0_ := Aside0.mk (Kd.R_below (by (with_reducible repeat (first | apply Kd.R_alloc | apply Kd.R_drewN | apply Kd.R_drew)); exact HO_5.out) hb); have n1_ := Aside0.mk (below_step (by repeat (first | (with_reducible first | exact HB.out | apply below_alloc | apply pw_below_drewN | apply below_drew1) | exact HB.out)) hb); clear HO_5; clear HB; have HO_5 := n0_; have HB := n1_; clear n0_ n1_; (try clear hb); (try clear hb2); (try clear hk); (try clear hi)) | ((with_reducible refine gate_callee (f := 20) rfl ?_); refine goesL_ (some 21) rfl rfl Tryd.func20 (by kernel_rfl) rfl #[.string a0] rfl (by (try simp only [List.map_toArray, List.map_cons, List.map_nil]); first | done | rfl | (simp only [List.length_drop, List.length_take]; rfl)) ?_; (with_reducible refine (doorkeeperref02_Lower.calls k1 a0 t182 _ A8.out).mono ?_); rintro e w15 ⟨rfl, hb⟩; refine ⟨_, rfl, ?_⟩; have n0_ := Aside0.mk (Kd.R_below (by (with_reducible repeat (first | apply Kd.R_alloc | apply Kd.R_drewN | apply Kd.R_drew)); exact HO_5.out) hb); have n1_ := Aside0.mk (below_step (by repeat (first | (with_reducible first | exact HB.out | apply below_alloc | apply pw_below_drewN | apply below_drew1) | exact HB.out)) hb); clear HO_5; clear HB; have HO_5 := n0_; have HB := n1_; clear n0_ n1_; (try clear hb); (try clear hb2); (try clear hk); (try clear hi)))
            go_roundg k1
            case measure => have := HK1.out; omega
            case rel => exact ⟨(wrap64 (x6_1 + 1)), (by first | rfl | (simp; done) | (simp [*]; done)), H', ⟨by have := HK1.out; omega⟩, ⟨by (with_reducible repeat (first | apply Kd.R_alloc | apply Kd.R_drewN | apply Kd.R_drew)); exact HO_5.out⟩, ⟨by repeat (first | (with_reducible first | exact HB.out | apply below_alloc | apply pw_below_drewN | apply below_drew1) | exact HB.out)⟩⟩
        · rw [if_neg c6] at H
          exact absurd H (by simp)
      · rw [if_neg c5] at H
        have c5b0 : decide (x6_1 < (t177.length : Int)) = false := decide_eq_false c5
        clear c5
        obtain rfl := Option.some.inj H
        obtain ⟨Ao16, co16, eo16⟩ := Kd.R_slice HO_5.out
        subst eo16
        go_wp2
        go_ret
        exact ⟨by first | rfl | (simp [errW_none, errW_some] <;> rfl) | (simp [*, errW_none, errW_some] <;> rfl), by repeat (first | (with_reducible first | exact HB.out | apply below_alloc | apply pw_below_drewN | apply below_drew1) | exact HB.out)⟩

end Go.Proofs.YthilbpgkhjchcaaDoor.P
end

section
namespace Go.Proofs.YthilbpgkhjchcaaDoor.P
open Go.RowKit Go.Proofs.YthilbpgkhjchcaaDoorW.PrintWords Go.Proofs.YthilbpgkhjchcaaDoorW.PrintLast Go.Proofs.YthilbpgkhjchcaaDoorW.PrintMore
attribute [local go_sem] max2_int min2_int max_two min_two max_three min_three max_four min_four   -- for this text's walks alone
set_option linter.unusedVariables false
set_option linter.unusedSimpArgs false

/-! ### doorkeeperref12_Join: function 18 -/
def doorkeeperref12_Join.l0 : Nat → List ByteArray → ByteArray → Int → Option (ByteArray)
  | 0, _, _, _ => none
  | k + 1, x0, x3, x4 => if x4 < (x0.length : Int) then (if x4 > 0 then (if x3.size + 2 ≤ 9223372036854775807 then (if 0 ≤ x4 then (if (x3 ++ (⟨#[44, 32]⟩ : ByteArray)).size + (rdOf ByteArray.empty x0 x4).size ≤ 9223372036854775807 then (doorkeeperref12_Join.l0 k x0 ((x3 ++ (⟨#[44, 32]⟩ : ByteArray)) ++ (rdOf ByteArray.empty x0 x4)) (wrap64 (x4 + 1))) else (none)) else (none)) else (none)) else (if 0 ≤ x4 then (if x3.size + (rdOf ByteArray.empty x0 x4).size ≤ 9223372036854775807 then (doorkeeperref12_Join.l0 k x0 (x3 ++ (rdOf ByteArray.empty x0 x4)) (wrap64 (x4 + 1))) else (none)) else (none))) else (some x3)
def doorkeeperref12_Join.f (k : Nat) (l0 : List ByteArray) : Option (ByteArray) := doorkeeperref12_Join.l0 k l0 (⟨#[]⟩ : ByteArray) 0
theorem doorkeeperref12_Join.mono_l : ∀ k, (∀ y0 y1 y2, LeO (doorkeeperref12_Join.l0 k y0 y1 y2) (doorkeeperref12_Join.l0 (k + 1) y0 y1 y2))
  | 0 => fun _ _ _ r h => by simp [doorkeeperref12_Join.l0] at h
  | k + 1 => by
    have ih0 := doorkeeperref12_Join.mono_l k
    · intro y0 y1 y2
      unfold doorkeeperref12_Join.l0
      repeat' first
      | (with_reducible exact ih0 _ _ _)
      | (with_reducible exact LeO.refl _)
      | (with_reducible exact LeO.none _)
      | (with_reducible refine LeO.ite ?_ ?_)
      | (with_reducible refine LeO.bind ?_ (fun _ => ?_))
      | exact ih0 _ _ _
      | exact LeO.none _
      | refine LeO.ite ?_ ?_
      | refine LeO.bind ?_ (fun _ => ?_)
theorem doorkeeperref12_Join.mono : ∀ a0 k, LeO (doorkeeperref12_Join.f k a0) (doorkeeperref12_Join.f (k + 1) a0) := by
  intro a0 k
  have ih0 := doorkeeperref12_Join.mono_l k
  unfold doorkeeperref12_Join.f
  repeat' first
      | (with_reducible exact ih0 _ _ _)
      | (with_reducible exact LeO.refl _)
      | (with_reducible exact LeO.none _)
      | (with_reducible refine LeO.ite ?_ ?_)
      | (with_reducible refine LeO.bind ?_ (fun _ => ?_))
      | exact ih0 _ _ _
      | exact LeO.none _
      | refine LeO.ite ?_ ?_
      | refine LeO.bind ?_ (fun _ => ?_)
set_option maxHeartbeats 8000000 in
set_option maxRecDepth 100000 in
theorem doorkeeperref12_Join.calls (k : Nat) (A0 : Option Addr) (c0 : Nat) (l0 : List ByteArray) (r : ByteArray) (w : World) (hr0 : Kd.C Kd.string w A0 l0.length l0) (hc0 : l0.length ≤ c0) (h : doorkeeperref12_Join.f k l0 = some r) :
    Calls Tryd.prog 18 #[.slice A0 l0.length c0] w fun e w' => e = .returned (.string r) ∧ Drawn0 w w' := by
  have HR0 := Aside0.mk hr0
  have HC0 := Aside0.mk hc0
  clear hr0 hc0
  have H : (doorkeeperref12_Join.l0 k l0 (⟨#[]⟩ : ByteArray) 0) = some r := h
  clear h
  have H' := Aside0.mk H
  clear H
  go_enter Tryd.func18, Tryd.ntmps18
  go_wp2
  go_loopg [3, 4] k (fun kq v3 v4 w' => ∃ (x3_1 : ByteArray) (x4_1 : Int), v3 = .string x3_1 ∧ v4 = .int .i64 x4_1 ∧ Aside0 (doorkeeperref12_Join.l0 kq l0 x3_1 x4_1 = some r) ∧ Aside0 (kq ≤ k) ∧ Drawn0 w w')
  case atStart => exact ⟨((⟨#[]⟩ : ByteArray)), (0), (by first | rfl | (simp; done) | (simp [*]; done)), (by first | rfl | (simp; done) | (simp [*]; done)), H', ⟨Nat.le_refl _⟩, by repeat (first | exact Drawn0.refl _ | apply Drawn0.step)⟩
  case round =>
    clear H'
    try clear c1
    obtain ⟨x3_1, x4_1, rfl, rfl, HA, HK1, ⟨m1, rfl⟩⟩ := hrel
    cases gk with
    | zero => exact absurd HA.out (by simp [doorkeeperref12_Join.l0])
    | succ k1 =>
      have H := HA.out
      clear HA
      simp only [doorkeeperref12_Join.l0] at H
      by_cases c2 : x4_1 < (l0.length : Int)
      · rw [if_pos c2] at H
        have c2b0 : decide (x4_1 < (l0.length : Int)) = true := decide_eq_true c2
        clear c2
        by_cases c3 : x4_1 > 0
        · rw [if_pos c3] at H
          have c3b0 : decide (0 < x4_1) = true := decide_eq_true c3
          clear c3
          by_cases c4 : x3_1.size + 2 ≤ 9223372036854775807
          · rw [if_pos c4] at H
            have c4b0 := eq_true c4
            have c4b1 : decide (x3_1.size + 2 ≤ 9223372036854775807) = true := decide_eq_true c4
            try have c4b2 : (9223372036854775807 < x3_1.size + 2) = False := eq_false (Nat.not_lt.2 c4)
            by_cases c5 : 0 ≤ x4_1
            · rw [if_pos c5] at H
              have c5b0 : decide (0 ≤ x4_1) = true := decide_eq_true c5
              clear c5
              by_cases c6 : (x3_1 ++ (⟨#[44, 32]⟩ : ByteArray)).size + (rdOf ByteArray.empty l0 x4_1).size ≤ 9223372036854775807
              · rw [if_pos c6] at H
                have c6b0 := eq_true c6
                have c6b1 : decide ((x3_1 ++ (⟨#[44, 32]⟩ : ByteArray)).size + (rdOf ByteArray.empty l0 x4_1).size ≤ 9223372036854775807) = true := decide_eq_true c6
                try have c6b2 : (9223372036854775807 < (x3_1 ++ (⟨#[44, 32]⟩ : ByteArray)).size + (rdOf ByteArray.empty l0 x4_1).size) = False := eq_false (Nat.not_lt.2 c6)
                have H' := Aside0.mk H
                clear H
                have p204 : 0 ≤ (x4_1 : Int) := of_decide_eq_true (by first | (with_reducible assumption) | assumption)
                have q204 : x4_1 < (l0.length : Int) := of_decide_eq_true (by first | (with_reducible assumption) | assumption)
                obtain ⟨ad204, e204, hx204_0⟩ := Kd.at_string HR0.out x4_1 p204 q204
                cases e204
                replace p204 := eq_true p204
                replace q204 := eq_true q204
                go_wp2
                go_roundg k1
                case measure => have := HK1.out; omega
                case rel => exact ⟨((x3_1 ++ (⟨#[44, 32]⟩ : ByteArray)) ++ (rdOf ByteArray.empty l0 x4_1)), (wrap64 (x4_1 + 1)), (by first | rfl | (simp; done) | (simp [*]; done)), (by first | rfl | (simp; done) | (simp [*]; done)), H', ⟨by have := HK1.out; omega⟩, by repeat (first | exact Drawn0.refl _ | apply Drawn0.step)⟩
              · rw [if_neg c6] at H
                exact absurd H (by simp)
            · rw [if_neg c5] at H
              exact absurd H (by simp)
          · rw [if_neg c4] at H
            exact absurd H (by simp)
        · rw [if_neg c3] at H
          have c3b0 : decide (0 < x4_1) = false := decide_eq_false c3
          clear c3
          by_cases c7 : 0 ≤ x4_1
          · rw [if_pos c7] at H
            have c7b0 : decide (0 ≤ x4_1) = true := decide_eq_true c7
            clear c7
            by_cases c8 : x3_1.size + (rdOf ByteArray.empty l0 x4_1).size ≤ 9223372036854775807
            · rw [if_pos c8] at H
              have c8b0 := eq_true c8
              have c8b1 : decide (x3_1.size + (rdOf ByteArray.empty l0 x4_1).size ≤ 9223372036854775807) = true := decide_eq_true c8
              try have c8b2 : (9223372036854775807 < x3_1.size + (rdOf ByteArray.empty l0 x4_1).size) = False := eq_false (Nat.not_lt.2 c8)
              have H' := Aside0.mk H
              clear H
              have p205 : 0 ≤ (x4_1 : Int) := of_decide_eq_true (by first | (with_reducible assumption) | assumption)
              have q205 : x4_1 < (l0.length : Int) := of_decide_eq_true (by first | (with_reducible assumption) | assumption)
              obtain ⟨ad205, e205, hx205_0⟩ := Kd.at_string HR0.out x4_1 p205 q205
              cases e205
              replace p205 := eq_true p205
              replace q205 := eq_true q205
              go_wp2
              go_roundg k1
              case measure => have := HK1.out; omega
              case rel => exact ⟨(x3_1 ++ (rdOf ByteArray.empty l0 x4_1)), (wrap64 (x4_1 + 1)), (by first | rfl | (simp; done) | (simp [*]; done)), (by first | rfl | (simp; done) | (simp [*]; done)), H', ⟨by have := HK1.out; omega⟩, by repeat (first | exact Drawn0.refl _ | apply Drawn0.step)⟩
            · rw [if_neg c8] at H
              exact absurd H (by simp)
          · rw [if_neg c7] at H
            exact absurd H (by simp)
      · rw [if_neg c2] at H
        have c2b0 : decide (x4_1 < (l0.length : Int)) = false := decide_eq_false c2
        clear c2
        obtain rfl := Option.some.inj H
        go_wp2
        go_ret
        exact ⟨by first | rfl | (simp; done) | (simp [*]; done), by repeat (first | exact Drawn0.refl _ | apply Drawn0.step)⟩

end Go.Proofs.YthilbpgkhjchcaaDoor.P
end

section
namespace Go.Proofs.YthilbpgkhjchcaaDoor.LRef
open Go Go.RowKit Go.Proofs.YthilbpgkhjchcaaDoorW.PrintWords Go.Proofs.YthilbpgkhjchcaaDoor.PB Go.Proofs.YthilbpgkhjchcaaDoor.P Go.Proofs.YthilbpgkhjchcaaDoor.CRef
open Go.Proofs.YthilbpgkhjchcaaDoor.LSpec (blankL trimL splitL elemsL elemsAll total total_mem total_length elemsAll_append elemsAll_one elemsAll_length)
open Go.Proofs.YthilbpgkhjchcaaDoor.LElems (gives)
open Go.Proofs.YthilbpgkhjchcaaDoor.LTok (toks tokList tokOk hasW)

theorem tokB_eq : LOct.tokB = tokB := rfl
theorem isTok_eq (s : ByteArray) : LOct.isTok s = isTok s := rfl
theorem lowS_eq (s : ByteArray) : LTok.lowS s = lowS s := rfl

def fewB (l : List ByteArray) : Bool := l.all (fun s => decide (s.size ≤ 300)) && decide (l.length ≤ 20)
theorem few_l0 (l : List ByteArray) (hn : l.length ≤ 9223372036854775807) : ∀ (d i : Nat), l.length - i = d → i ≤ l.length →
    Ev (fun k => doorkeeperref12_Few.l0 k l (i : Int)) ((l.drop i).all (fun s => decide (s.size ≤ 300)) && decide (l.length ≤ 20)) := by
  intro d
  induction d with
  | zero =>
    intro i hd hi
    obtain rfl : i = l.length := by omega
    refine Ev.step (f := fun _ => some (decide (l.length ≤ 20))) (fun k => ?_) (by rw [List.drop_length]; simpa using Ev.now (decide (l.length ≤ 20)))
    simp only [doorkeeperref12_Few.l0]
    rw [if_neg (by omega)]
    congr 1
    rw [decide_eq_decide]; omega
  | succ d ih =>
    intro i hd hi
    have h1 : i < l.length := by omega
    by_cases e : l[i].size ≤ 300
    · refine Ev.step (f := fun k => doorkeeperref12_Few.l0 k l ((i + 1 : Nat) : Int)) (fun k => ?_) ?_
      · simp only [doorkeeperref12_Few.l0]
        rw [if_pos (by omega), if_pos (by omega), rd_nat _ _ h1, if_neg (by omega), wrap_succ h1 hn]
      · rw [drop_cons l i h1, List.all_cons, decide_eq_true e, Bool.true_and]
        exact ih (i + 1) (by omega) (by omega)
    · refine Ev.step (f := fun _ => some false) (fun k => ?_) ?_
      · simp only [doorkeeperref12_Few.l0]
        rw [if_pos (by omega), if_pos (by omega), rd_nat _ _ h1, if_pos (by omega)]
      · rw [drop_cons l i h1, List.all_cons, decide_eq_false e, Bool.false_and, Bool.false_and]
        exact Ev.now _
theorem few_ev (l : List ByteArray) (hn : l.length ≤ 9223372036854775807) : Ev (fun k => doorkeeperref12_Few.f k l) (fewB l) := by
  simpa [doorkeeperref12_Few.f, fewB] using few_l0 l hn _ 0 rfl (Nat.zero_le _)
theorem few_total {l : List ByteArray} (h : fewB l = true) : total l ≤ 6020 := by
  simp only [fewB, Bool.and_eq_true, List.all_eq_true, decide_eq_true_eq] at h
  obtain ⟨h1, h2⟩ := h
  have : ∀ (l : List ByteArray), (∀ x ∈ l, x.size ≤ 300) → total l ≤ 301 * l.length := by
    intro l
    induction l with
    | nil => intro _; simp [total]
    | cons a r ih =>
      intro h
      have h3 := ih (fun x hx => h x (by simp [hx]))
      have h4 := h a (by simp)
      simp only [total, List.map_cons, List.sum_cons, List.length_cons] at h3 ⊢
      omega
  have := this l h1
  omega

/-- the pieces that are complete when the bytes r have been read behind p. -/
def scan : List UInt8 → List UInt8 → List (List UInt8)
  | _, [] => []
  | p, c :: r => if c = 44 then p :: scan [] r else scan (p ++ [c]) r
theorem scan_split (l : List UInt8) : ∀ p, scan p (l ++ [44]) = match splitL 44 l with | [] => [] | h :: t => (p ++ h) :: t := by
  induction l with
  | nil => intro p; simp [scan, splitL]
  | cons c r ih =>
    intro p
    simp only [List.cons_append, scan, splitL]
    by_cases e : c = 44
    · rw [if_pos e, if_pos e, ih []]
      have h := LSpec.splitL_ne 44 r
      cases hs : splitL 44 r with
      | nil => exact absurd hs h
      | cons a b => simp
    · rw [if_neg e, if_neg e, ih (p ++ [c])]
      have h := LSpec.splitL_ne 44 r
      cases hs : splitL 44 r with
      | nil => exact absurd hs h
      | cons a b => simp
theorem scan_split0 (l : List UInt8) : scan [] (l ++ [44]) = splitL 44 l := by
  rw [scan_split]
  have h := LSpec.splitL_ne 44 l
  cases hs : splitL 44 l with
  | nil => exact absurd hs h
  | cons a b => simp
/-- the elements among the pieces. -/
def els (ps : List (List UInt8)) : List ByteArray := ((ps.map trimL).filter fun p => !p.isEmpty).map ofL
theorem els_cons (p : List UInt8) (ps : List (List UInt8)) : els (p :: ps) = (if (trimL p).isEmpty then [] else [ofL (trimL p)]) ++ els ps := by
  unfold els
  cases h : (trimL p).isEmpty <;> simp [h]
theorem els_nil : els [] = [] := rfl
theorem scan_length : ∀ (r p : List UInt8), (scan p r).length ≤ r.length
  | [], _ => by simp [scan]
  | c :: r, p => by
    simp only [scan]
    split
    · have := scan_length r []; simp; omega
    · have := scan_length r (p ++ [c]); simp; omega
theorem els_length (ps : List (List UInt8)) : (els ps).length ≤ ps.length := by
  unfold els; rw [List.length_map]; exact Nat.le_trans (List.length_filter_le _ _) (by simp)
theorem els_elemsL (l : List UInt8) : els (scan [] (l ++ [44])) = (elemsL l).map ofL := by rw [scan_split0]; rfl

theorem elements_l1 (xs : List ByteArray) (n4 : Int) (w : List UInt8) (hw : w.length ≤ 2199023255552) (R : List ByteArray) : ∀ (d i : Nat) (p : List UInt8) (acc : List ByteArray), w.length - i = d → i ≤ w.length → p.length ≤ i → acc.length + (w.length - i) < 8796093022208 →
    Ev (fun k => doorkeeperref12_Elements.l0 k xs (acc ++ els (scan p (w.drop i))) (wrap64 (n4 + 1))) R →
    Ev (fun k => doorkeeperref12_Elements.l1 k xs acc n4 (ofL p) (ofL w) (i : Int)) R := by
  intro d
  induction d with
  | zero =>
    intro i p acc hd hi hp hacc h
    obtain rfl : i = w.length := by omega
    refine Ev.step (f := fun k => doorkeeperref12_Elements.l0 k xs acc (wrap64 (n4 + 1))) (fun k => ?_) (by rw [List.drop_length] at h; simpa [scan, els] using h)
    simp only [doorkeeperref12_Elements.l1]
    rw [if_neg (by rw [size_ofL]; omega)]
  | succ d ih =>
    intro i p acc hd hi hp hacc h
    have h1 : i < w.length := by omega
    rw [drop_cons w i h1] at h
    have hemp : (⟨#[]⟩ : ByteArray) = ofL [] := rfl
    have htr := trim_ev (ofL p) (by rw [size_ofL]; omega)
    have hts : trimS (ofL p) = ofL (trimL p) := rfl
    rw [hts] at htr
    by_cases e : w[i] = 44
    · simp only [scan] at h
      rw [if_pos e, els_cons, ← List.append_assoc] at h
      have hb : (w[i].toNat : Int) = 44 := by rw [e]; rfl
      cases he : (trimL p).isEmpty with
      | true =>
        rw [he] at h
        have he' : (ofL (trimL p)).toList = ([] : List UInt8) := by rw [toList_ofL]; simpa using he
        refine Ev.step (f := fun k => (doorkeeperref02_Trim.f k (ofL p)).bind fun t => if t.toList = ([] : List UInt8) then doorkeeperref12_Elements.l1 k xs acc n4 (ofL []) (ofL w) ((i + 1 : Nat) : Int) else (doorkeeperref02_Trim.f k (ofL p)).bind fun t2 => if acc.length < 8796093022208 then doorkeeperref12_Elements.l1 k xs (acc ++ [t2]) n4 (ofL []) (ofL w) ((i + 1 : Nat) : Int) else none) (fun k => ?_) ?_
        · simp only [doorkeeperref12_Elements.l1]
          rw [if_pos (by rw [size_ofL]; omega), if_pos (by omega), bt_nat _ _ h1, if_pos hb, wrap_succ h1 (by omega), hemp]
        · refine Ev.bind htr ?_
          refine Ev.congr (fun k => if_pos he') ?_
          exact ih (i + 1) [] acc (by omega) (by omega) (by simp) (by omega) (by simpa using h)
      | false =>
        rw [he] at h
        have he' : ¬ (ofL (trimL p)).toList = ([] : List UInt8) := by rw [toList_ofL]; simpa using he
        refine Ev.step (f := fun k => (doorkeeperref02_Trim.f k (ofL p)).bind fun t => if t.toList = ([] : List UInt8) then doorkeeperref12_Elements.l1 k xs acc n4 (ofL []) (ofL w) ((i + 1 : Nat) : Int) else (doorkeeperref02_Trim.f k (ofL p)).bind fun t2 => if acc.length < 8796093022208 then doorkeeperref12_Elements.l1 k xs (acc ++ [t2]) n4 (ofL []) (ofL w) ((i + 1 : Nat) : Int) else none) (fun k => ?_) ?_
        · simp only [doorkeeperref12_Elements.l1]
          rw [if_pos (by rw [size_ofL]; omega), if_pos (by omega), bt_nat _ _ h1, if_pos hb, wrap_succ h1 (by omega), hemp]
        · refine Ev.bind htr ?_
          refine Ev.congr (fun k => if_neg he') ?_
          refine Ev.bind htr ?_
          refine Ev.congr (fun k => if_pos (by omega)) ?_
          exact ih (i + 1) [] (acc ++ [ofL (trimL p)]) (by omega) (by omega) (by simp) (by simp; omega) (by simpa using h)
    · simp only [scan] at h
      rw [if_neg e] at h
      have hb : ¬ (w[i].toNat : Int) = 44 := fun hh => e ((u8_eq_nat w[i] 44 (by omega)).1 hh)
      have hx : (ofL w).extract ((i : Int)).toNat (((i + 1 : Nat) : Int)).toNat = ofL [w[i]] := by
        rw [extract_ofL, Int.toNat_natCast, Int.toNat_natCast, drop_cons w i h1]
        have : i + 1 - i = 1 := by omega
        rw [this]; rfl
      refine Ev.step (f := fun k => doorkeeperref12_Elements.l1 k xs acc n4 (ofL (p ++ [w[i]])) (ofL w) ((i + 1 : Nat) : Int)) (fun k => ?_) (ih (i + 1) (p ++ [w[i]]) acc (by omega) (by omega) (by simp; omega) (by omega) h)
      simp only [doorkeeperref12_Elements.l1]
      rw [if_pos (by rw [size_ofL]; omega), if_pos (by omega), bt_nat _ _ h1, if_neg hb, wrap_succ h1 (by omega), if_pos (by omega), if_pos (by rw [size_ofL]; omega), hx, if_pos (by rw [size_ofL, size_ofL]; simp; omega), append_ofL]

theorem elements_l0 (l : List ByteArray) (ht : total l ≤ 1099511627776) : ∀ (d i : Nat) (acc : List ByteArray), l.length - i = d → i ≤ l.length → acc.length + total (l.drop i) ≤ 1099511627776 →
    Ev (fun k => doorkeeperref12_Elements.l0 k l acc (i : Int)) (acc ++ gives (l.drop i)) := by
  have hll := total_length l
  intro d
  induction d with
  | zero =>
    intro i acc hd hi _
    obtain rfl : i = l.length := by omega
    refine Ev.step (f := fun _ => some acc) (fun k => ?_) (by rw [List.drop_length]; simpa [gives, elemsAll] using Ev.now acc)
    simp only [doorkeeperref12_Elements.l0]
    rw [if_neg (by omega)]
  | succ d ih =>
    intro i acc hd hi hacc
    have h1 : i < l.length := by omega
    have hsz := total_mem (List.getElem_mem h1)
    have hd1 : total (l.drop i) = l[i].size + 1 + total (l.drop (i + 1)) := by rw [drop_cons l i h1]; unfold total; rw [List.map_cons, List.sum_cons]
    have hsp : l[i] ++ (⟨#[44]⟩ : ByteArray) = ofL (toL l[i] ++ [44]) := by
      rw [show (⟨#[44]⟩ : ByteArray) = ofL [44] from rfl, ← append_ofL, ofL_toL]
    have hel : gives (l.drop i) = (elemsL (toL l[i])).map ofL ++ gives (l.drop (i + 1)) := by
      rw [drop_cons l i h1]; unfold gives elemsAll; rw [List.map_cons, List.flatten_cons, List.map_append]
    refine Ev.step (f := fun k => doorkeeperref12_Elements.l1 k l acc (i : Int) (ofL []) (ofL (toL l[i] ++ [44])) ((0 : Nat) : Int)) (fun k => ?_) ?_
    · simp only [doorkeeperref12_Elements.l0]
      rw [if_pos (by omega), if_pos (by omega), rd_nat _ _ h1, if_pos (by omega), hsp]; rfl
    · have hlw : (toL l[i] ++ [44]).length = l[i].size + 1 := by simp [toL_length]
      refine elements_l1 l (i : Int) (toL l[i] ++ [44]) (by omega) _ _ 0 [] acc rfl (Nat.zero_le _) (by simp) (by omega) ?_
      rw [List.drop_zero, els_elemsL, wrap_succ h1 (by omega), hel, ← List.append_assoc]
      refine ih (i + 1) _ (by omega) (by omega) ?_
      have h2 := LSpec.elemsL_length (toL l[i])
      rw [toL_length] at h2
      rw [List.length_append, List.length_map]
      omega
theorem elements_ev (l : List ByteArray) (ht : total l ≤ 1099511627776) : Ev (fun k => doorkeeperref12_Elements.f k l) (gives l) := by
  have := elements_l0 l ht _ 0 [] rfl (Nat.zero_le _) (by simpa using ht)
  simpa [doorkeeperref12_Elements.f] using this

/-! the elements are no longer than what they came from -/
theorem elem_size {l : List ByteArray} {x : ByteArray} (h : x ∈ gives l) : x.size ≤ total l := by
  simp only [gives, elemsAll, List.mem_map, List.mem_flatten] at h
  obtain ⟨y, ⟨ys, ⟨s, hs, rfl⟩, hy⟩, rfl⟩ := h
  simp only [elemsL, List.mem_filter, List.mem_map] at hy
  obtain ⟨⟨q, hq, rfl⟩, _⟩ := hy
  have h1 := LSpec.trimL_length q
  have h2 := piece_length (toL s) q hq
  have h3 := total_mem hs
  rw [toL_length] at h2
  rw [size_ofL]
  omega
where
  piece_length : ∀ (l q : List UInt8), q ∈ splitL 44 l → q.length ≤ l.length
    | [], q, h => by simp [splitL] at h; simp [h]
    | x :: r, q, h => by
      have ih := piece_length r
      simp only [splitL] at h
      split at h
      · rcases List.mem_cons.1 h with rfl | h
        · simp
        · have := ih q h; simp; omega
      · split at h
        · simp at h; simp [h]
        · rename_i p ps e
          rcases List.mem_cons.1 h with rfl | h
          · have := ih p (by rw [e]; simp); simp; omega
          · have := ih q (by rw [e]; simp [h]); simp; omega
theorem gives_len (l : List ByteArray) : (gives l).length ≤ total l := by
  unfold gives; rw [List.length_map]; exact elemsAll_length l

theorem tokens_l0 (xs : List ByteArray) (hn : xs.length ≤ 1099511627776) (hs : ∀ x ∈ xs, x.size ≤ 1099511627776) : ∀ (d i : Nat), xs.length - i = d → i ≤ xs.length →
    Ev (fun k => doorkeeperref12_Tokens.l0 k xs (toks (xs.take i)) (i : Int)) (if (xs.drop i).all isTok then (toks xs, decide (0 < xs.length)) else ([], false)) := by
  intro d
  induction d with
  | zero =>
    intro i hd hi
    obtain rfl : i = xs.length := by omega
    refine Ev.step (f := fun _ => some (toks xs, decide (0 < xs.length))) (fun k => ?_) (by rw [List.drop_length]; exact Ev.now _)
    simp only [doorkeeperref12_Tokens.l0]
    rw [if_neg (by omega), List.take_length]
    congr 2
    rw [decide_eq_decide]; omega
  | succ d ih =>
    intro i hd hi
    have h1 : i < xs.length := by omega
    have hsz := hs _ (List.getElem_mem h1)
    have ht := isToken_ev xs[i] (by omega)
    refine Ev.step (f := fun k => (doorkeeperref02_IsToken.f k xs[i]).bind fun t => if t = true then (doorkeeperref02_Lower.f k xs[i]).bind fun t2 => if (toks (xs.take i)).length < 8796093022208 then doorkeeperref12_Tokens.l0 k xs (toks (xs.take i) ++ [t2]) ((i + 1 : Nat) : Int) else none else some ([], false)) (fun k => ?_) ?_
    · simp only [doorkeeperref12_Tokens.l0]
      rw [if_pos (by omega), if_pos (by omega), rd_nat _ _ h1, wrap_succ h1 (by omega)]
    · refine Ev.bind ht ?_
      rw [drop_cons xs i h1, List.all_cons]
      cases isTok xs[i] with
      | false => simpa using Ev.now (([] : List ByteArray), false)
      | true =>
        refine Ev.congr (fun k => if_pos rfl) ?_
        refine Ev.bind (lower_ev xs[i] (by omega)) ?_
        have e : toks (xs.take i) ++ [lowS xs[i]] = toks (xs.take (i + 1)) := by rw [List.take_succ_eq_append_getElem h1]; unfold toks; rw [List.map_append, List.map_singleton]; rfl
        rw [e]
        refine Ev.congr (fun k => if_pos (by simp [toks]; omega)) ?_
        simpa using ih (i + 1) (by omega) (by omega)
theorem tokens_ev (l : List ByteArray) (ht : total l ≤ 1099511627776) : Ev (fun k => doorkeeperref12_Tokens.f k l) (tokList l, tokOk l) := by
  have hg := gives_len l
  have h := tokens_l0 (gives l) (by omega) (fun x hx => Nat.le_trans (elem_size hx) ht) _ 0 rfl (Nat.zero_le _)
  unfold doorkeeperref12_Tokens.f
  refine Ev.bind (elements_ev l ht) ?_
  have e : (tokList l, tokOk l) = if ((gives l).drop 0).all isTok then (toks (gives l), decide (0 < (gives l).length)) else ([], false) := by
    have hh : LOct.isTok = isTok := rfl
    unfold tokList tokOk
    rw [List.drop_zero, hh]
    cases (gives l).all isTok
    · rfl
    · cases gives l <;> simp
  rw [e]
  simpa [toks] using h

theorem hasW_hit {w x : ByteArray} {r : List ByteArray} (e : (lowS x).toList = (lowS w).toList) : hasW w (x :: r) = true := by
  have e2 : (LTok.lowS x).toList = (LTok.lowS w).toList := e
  simp [hasW, e2]
theorem hasW_miss {w x : ByteArray} {r : List ByteArray} (e : ¬ (lowS x).toList = (lowS w).toList) : hasW w (x :: r) = hasW w r := by
  have e2 : ¬ (LTok.lowS x).toList = (LTok.lowS w).toList := e
  simp [hasW, e2]
theorem has_l0 (w : ByteArray) (hw : w.size ≤ 140737488351232) (xs : List ByteArray) (hn : xs.length ≤ 1099511627776) (hs : ∀ x ∈ xs, x.size ≤ 1099511627776) : ∀ (d i : Nat), xs.length - i = d → i ≤ xs.length →
    Ev (fun k => doorkeeperref12_Has.l0 k w xs (i : Int)) (hasW w (xs.drop i)) := by
  intro d
  induction d with
  | zero =>
    intro i hd hi
    obtain rfl : i = xs.length := by omega
    refine Ev.step (f := fun _ => some false) (fun k => ?_) (by rw [List.drop_length]; exact Ev.now _)
    simp only [doorkeeperref12_Has.l0]
    rw [if_neg (by omega)]
  | succ d ih =>
    intro i hd hi
    have h1 : i < xs.length := by omega
    have hsz := hs _ (List.getElem_mem h1)
    refine Ev.step (f := fun k => (doorkeeperref02_Lower.f k xs[i]).bind fun t => (doorkeeperref02_Lower.f k w).bind fun t2 => if t.toList = t2.toList then some true else doorkeeperref12_Has.l0 k w xs ((i + 1 : Nat) : Int)) (fun k => ?_) ?_
    · simp only [doorkeeperref12_Has.l0]
      rw [if_pos (by omega), if_pos (by omega), rd_nat _ _ h1, wrap_succ h1 (by omega)]
    · refine Ev.bind (lower_ev xs[i] (by omega)) ?_
      refine Ev.bind (lower_ev w (by omega)) ?_
      rw [drop_cons xs i h1]
      by_cases e : (lowS xs[i]).toList = (lowS w).toList
      · refine Ev.congr (fun k => if_pos e) ?_
        have : hasW w (xs[i] :: xs.drop (i + 1)) = true := hasW_hit e
        rw [this]; exact Ev.now _
      · refine Ev.congr (fun k => if_neg e) ?_
        have : hasW w (xs[i] :: xs.drop (i + 1)) = hasW w (xs.drop (i + 1)) := hasW_miss e
        rw [this]; exact ih (i + 1) (by omega) (by omega)
theorem has_ev (w : ByteArray) (hw : w.size ≤ 140737488351232) (l : List ByteArray) (ht : total l ≤ 1099511627776) : Ev (fun k => doorkeeperref12_Has.f k w l) (hasW w (gives l)) := by
  have hg := gives_len l
  unfold doorkeeperref12_Has.f
  refine Ev.bind (elements_ev l ht) ?_
  simpa using has_l0 w hw (gives l) (by omega) (fun x hx => Nat.le_trans (elem_size hx) ht) _ 0 rfl (Nat.zero_le _)

theorem join_take_succ (l : List ByteArray) (i : Nat) (h : i < l.length) : joinS (l.take (i + 1)) = (if i = 0 then joinS (l.take i) else joinS (l.take i) ++ (⟨#[44, 32]⟩ : ByteArray)) ++ l[i] := by
  have e : l.take (i + 1) = l.take i ++ [l[i]] := List.take_succ_eq_append_getElem h
  rw [e]
  unfold joinS
  rw [List.map_append, List.map_singleton]
  have hj : ∀ (xs : List (List UInt8)) (y : List UInt8), Lib.join (xs ++ [y]) [44, 32] = if xs = [] then y else Lib.join xs [44, 32] ++ [44, 32] ++ y := by
    intro xs y
    cases xs with
    | nil => simp [Lib.join_one]
    | cons a r => rw [if_neg (by simp), List.cons_append, Lib.join_cons, Lib.join_cons]; simp [Lib.joinTail]
  rw [hj]
  by_cases h0 : i = 0
  · subst h0
    rw [if_pos (by simp), if_pos rfl]
    rw [← ofL_toL l[0], append_ofL]
    simp [Lib.join_nil, toL_ofL]
  · have hne : List.map toL (l.take i) ≠ [] := by
      rw [Ne, List.map_eq_nil_iff, List.take_eq_nil_iff]
      rintro (hh | hh)
      · exact h0 hh
      · subst hh; simp at h
    rw [if_neg hne, if_neg h0, show (⟨#[44, 32]⟩ : ByteArray) = ofL [44, 32] from rfl, append_ofL]
    conv => rhs; rw [← ofL_toL l[i], append_ofL]
theorem join_size (l : List ByteArray) : (joinS l).size ≤ 2 * total l := by unfold joinS; rw [size_ofL]; exact join_length l
theorem total_take_le (l : List ByteArray) (i : Nat) : total (l.take i) ≤ total l := by
  have e : total l = total (l.take i) + total (l.drop i) := by
    conv => lhs; rw [← List.take_append_drop i l]
    unfold total; rw [List.map_append, List.sum_append]
  omega
theorem join_l0 (l : List ByteArray) (ht : total l ≤ 1099511627776) : ∀ (d i : Nat), l.length - i = d → i ≤ l.length →
    Ev (fun k => doorkeeperref12_Join.l0 k l (joinS (l.take i)) (i : Int)) (joinS l) := by
  have hll := total_length l
  intro d
  induction d with
  | zero =>
    intro i hd hi
    obtain rfl : i = l.length := by omega
    refine Ev.step (f := fun _ => some (joinS l)) (fun k => ?_) (Ev.now _)
    simp only [doorkeeperref12_Join.l0]
    rw [if_neg (by omega), List.take_length]
  | succ d ih =>
    intro i hd hi
    have h1 : i < l.length := by omega
    have hs := join_take_succ l i h1
    have hz := join_size (l.take i)
    have hz2 := total_take_le l i
    have hz3 := total_mem (List.getElem_mem h1)
    have h2 : (⟨#[44, 32]⟩ : ByteArray).size = 2 := rfl
    refine Ev.step (f := fun k => doorkeeperref12_Join.l0 k l (joinS (l.take (i + 1))) ((i + 1 : Nat) : Int)) (fun k => ?_) (ih (i + 1) (by omega) (by omega))
    simp only [doorkeeperref12_Join.l0]
    rw [if_pos (by omega), rd_nat _ _ h1, wrap_succ h1 (by omega), hs]
    by_cases h0 : i = 0
    · rw [if_neg (by omega), if_pos (by omega), if_pos (by omega), if_pos h0]
    · rw [if_pos (by omega), if_pos (by omega), if_pos (by omega), if_pos (by rw [ByteArray.size_append, h2]; omega), if_neg h0]
theorem join_ev (l : List ByteArray) (ht : total l ≤ 1099511627776) : Ev (fun k => doorkeeperref12_Join.f k l) (joinS l) := by
  have := join_l0 l ht _ 0 rfl (Nat.zero_le _)
  simpa [doorkeeperref12_Join.f, joinS, Lib.join_nil, ofL] using this

end Go.Proofs.YthilbpgkhjchcaaDoor.LRef
end

section
namespace Go.Proofs.YthilbpgkhjchcaaDoor.LPlain
open Go Go.RowKit Go.Proofs.YthilbpgkhjchcaaDoorW.PrintWords Go.Proofs.YthilbpgkhjchcaaDoor.PB Go.Proofs.YthilbpgkhjchcaaDoor.P Go.Proofs.YthilbpgkhjchcaaDoor.CRef Go.Proofs.YthilbpgkhjchcaaDoor.LRef
open Go.Proofs.YthilbpgkhjchcaaDoor.LSpec (blankL trimL splitL elemsL elemsAll total total_mem total_length elemsAll_append elemsAll_one elemsAll_length splitL_ne)
open Go.Proofs.YthilbpgkhjchcaaDoor.LElems (gives)
open Go.Proofs.YthilbpgkhjchcaaDoor.LTok (toks tokList tokOk hasW)

theorem split_append (c : UInt8) (x y : List UInt8) : splitL c (x ++ c :: y) = splitL c x ++ splitL c y := by
  induction x with
  | nil => simp [splitL]
  | cons a r ih =>
    simp only [List.cons_append, splitL]
    by_cases e : a = c
    · rw [if_pos e, if_pos e, ih]; rfl
    · rw [if_neg e, if_neg e, ih]
      have h := splitL_ne c r
      cases hs : splitL c r with
      | nil => exact absurd hs h
      | cons p ps => simp
theorem elems_append (x y : List UInt8) : elemsL (x ++ 44 :: y) = elemsL x ++ elemsL y := by
  simp [elemsL, split_append]
theorem trim_eq (l : List UInt8) : trimL l = rtrim (l.dropWhile blankL) := rfl
theorem trim_cons (c : UInt8) (hc : blankL c = true) (l : List UInt8) : trimL (c :: l) = trimL l := by
  simp [trimL, List.dropWhile_cons, hc]
theorem dropWhile_snoc (c : UInt8) (hc : blankL c = true) (l : List UInt8) : (l ++ [c]).dropWhile blankL = if l.dropWhile blankL = [] then [] else l.dropWhile blankL ++ [c] := by
  induction l with
  | nil => simp [hc]
  | cons a r ih =>
    rw [List.cons_append, List.dropWhile_cons, List.dropWhile_cons]
    cases h : blankL a with
    | true => rw [if_pos rfl, ih, if_pos rfl]
    | false => simp
theorem trim_snoc (c : UInt8) (hc : blankL c = true) (l : List UInt8) : trimL (l ++ [c]) = trimL l := by
  rw [trim_eq, trim_eq, dropWhile_snoc c hc]
  split
  · rename_i h; rw [h]
  · exact rtrim_blank _ _ hc
theorem elems_cons (c : UInt8) (hc : blankL c = true) (l : List UInt8) : elemsL (c :: l) = elemsL l := by
  have h44 : c ≠ 44 := by rintro rfl; exact absurd hc (by decide)
  unfold elemsL
  simp only [splitL]
  rw [if_neg h44]
  have h := splitL_ne 44 l
  cases hs : splitL 44 l with
  | nil => exact absurd hs h
  | cons p ps => simp [trim_cons c hc]
theorem elems_nil : elemsL [] = [] := by decide
theorem elems_join (ps : List (List UInt8)) : elemsL (Lib.join ps [44, 32]) = (ps.map elemsL).flatten := by
  cases ps with
  | nil => rw [Lib.join_nil]; exact elems_nil
  | cons a r =>
    rw [Lib.join_cons, List.map_cons, List.flatten_cons]
    induction r generalizing a with
    | nil => simp [Lib.joinTail]
    | cons b t ih =>
      have e : Lib.joinTail [44, 32] (b :: t) = 44 :: 32 :: (b ++ Lib.joinTail [44, 32] t) := by simp [Lib.joinTail]
      rw [e, elems_append, elems_cons 32 rfl, ih b, List.map_cons, List.flatten_cons]
theorem gives_join (l : List ByteArray) : gives [joinS l] = gives l := by
  unfold gives joinS
  rw [elemsAll_one, toL_ofL, elems_join, List.map_map]
  rfl
theorem gives_append (a b : List ByteArray) : gives (a ++ b) = gives a ++ gives b := by
  unfold gives; rw [elemsAll_append, List.map_append]

/-! tokens are elements of their own -/
theorem tok_no (c : UInt8) (h : tokB c = true) : c ≠ 44 ∧ blankL c = false := by
  constructor
  · rintro rfl; exact absurd h (by decide)
  · cases hb : blankL c with
    | false => rfl
    | true =>
      simp only [blankL, Bool.or_eq_true, beq_iff_eq] at hb
      rcases hb with rfl | rfl <;> exact absurd h (by decide)
theorem trim_none {l : List UInt8} (h : ∀ x ∈ l, blankL x = false) : trimL l = l := by
  have hd : ∀ l : List UInt8, (∀ x ∈ l, blankL x = false) → l.dropWhile blankL = l := by
    intro l h
    cases l with
    | nil => rfl
    | cons a r => rw [List.dropWhile_cons, h a (by simp)]; rfl
  rw [trimL, hd l h, hd l.reverse (by simpa using h), List.reverse_reverse]
theorem elems_tok {s : ByteArray} (h : isTok s = true) : (elemsL (toL s)).map ofL = [s] := by
  simp only [isTok, Bool.and_eq_true, List.all_eq_true, Bool.not_eq_true'] at h
  obtain ⟨h1, h2⟩ := h
  have e1 := LSpec.splitL_none (c := 44) (l := toL s) (fun x hx => (tok_no x (h2 x hx)).1)
  have e2 := trim_none (l := toL s) (fun x hx => (tok_no x (h2 x hx)).2)
  unfold elemsL
  rw [e1, List.map_singleton, e2]
  simp [h1, ofL_toL]
theorem gives_toks {l : List ByteArray} (h : l.all isTok = true) : gives l = l := by
  induction l with
  | nil => rfl
  | cons a r ih =>
    rw [List.all_cons, Bool.and_eq_true] at h
    have e : gives (a :: r) = (elemsL (toL a)).map ofL ++ gives r := by unfold gives elemsAll; rw [List.map_cons, List.flatten_cons, List.map_append]
    rw [e, elems_tok h.1, ih h.2]; rfl

/-! an element behind others -/
theorem elems_once (w : List UInt8) (h44 : ∀ x ∈ w, x ≠ 44) (hne : trimL w ≠ []) : elemsL (32 :: (w ++ [9, 44])) = [trimL w] := by
  have e : 32 :: (w ++ [9, 44]) = (32 :: (w ++ [9])) ++ 44 :: [] := by simp
  rw [e, elems_append, elems_nil, List.append_nil, elems_cons 32 rfl]
  unfold elemsL
  rw [LSpec.splitL_none (fun x hx => by
    rcases List.mem_append.1 hx with hx | hx
    · exact h44 x hx
    · simp at hx; subst hx; decide), List.map_singleton, trim_snoc 9 rfl]
  simp [hne]

/-! the case of letters -/
theorem u8_all (p : UInt8 → Bool) (h : ∀ n : Fin 256, p (UInt8.ofNat n.val) = true) (c : UInt8) : p c = true := by
  have := h ⟨c.toNat, c.toNat_lt⟩
  simpa using this
theorem low_low (c : UInt8) : lowB (lowB c) = lowB c := by
  simpa using u8_all (fun c => lowB (lowB c) == lowB c) (by decide +kernel) c
theorem tok_low (c : UInt8) : tokB (lowB c) = tokB c := by
  simpa using u8_all (fun c => tokB (lowB c) == tokB c) (by decide +kernel) c
theorem blank_low (c : UInt8) : blankL (lowB c) = blankL c := by
  simpa using u8_all (fun c => blankL (lowB c) == blankL c) (by decide +kernel) c
theorem comma_low (c : UInt8) : (lowB c = 44) ↔ (c = 44) := by
  have := u8_all (fun c => decide ((lowB c = 44) ↔ (c = 44))) (by decide +kernel) c
  simpa using this
theorem lowL_low (l : List UInt8) : lowL (lowL l) = lowL l := by
  unfold lowL; rw [List.map_map]; exact List.map_congr_left (fun c _ => low_low c)
theorem toL_lowS (s : ByteArray) : toL (lowS s) = lowL (toL s) := rfl
theorem lowS_low (s : ByteArray) : lowS (lowS s) = lowS s := by unfold lowS; rw [toL_ofL, lowL_low]
theorem isTok_low (s : ByteArray) : isTok (lowS s) = isTok s := by
  unfold isTok
  rw [toL_lowS]
  unfold lowL
  rw [List.all_map]
  have e : (tokB ∘ lowB) = tokB := funext tok_low
  rw [e]
  cases toL s <;> rfl
theorem split_low (l : List UInt8) : splitL 44 (lowL l) = (splitL 44 l).map lowL := by
  induction l with
  | nil => rfl
  | cons a r ih =>
    have e : lowL (a :: r) = lowB a :: lowL r := rfl
    rw [e]
    simp only [splitL]
    by_cases h : a = 44
    · rw [if_pos h, if_pos ((comma_low a).2 h), ih]; rfl
    · rw [if_neg h, if_neg (fun hh => h ((comma_low a).1 hh)), ih]
      cases splitL 44 r <;> rfl
theorem dropWhile_low (l : List UInt8) : (lowL l).dropWhile blankL = lowL (l.dropWhile blankL) := by
  induction l with
  | nil => rfl
  | cons a r ih =>
    have e : lowL (a :: r) = lowB a :: lowL r := rfl
    rw [e, List.dropWhile_cons, List.dropWhile_cons, blank_low]
    cases blankL a with
    | true => rw [if_pos rfl, if_pos rfl, ih]
    | false => rfl
theorem trim_low (l : List UInt8) : trimL (lowL l) = lowL (trimL l) := by
  unfold trimL
  have hr : ∀ l : List UInt8, (lowL l).reverse = lowL l.reverse := fun l => by unfold lowL; rw [List.map_reverse]
  rw [dropWhile_low, hr, dropWhile_low, hr]
theorem elems_low (l : List UInt8) : elemsL (lowL l) = (elemsL l).map lowL := by
  unfold elemsL
  rw [split_low, List.map_map, List.filter_map, List.filter_map, List.map_map]
  have e : ∀ q : List UInt8, (lowL q).isEmpty = q.isEmpty := fun q => by cases q <;> rfl
  have e1 : (((fun p : List UInt8 => !p.isEmpty) ∘ (trimL ∘ lowL)) : List UInt8 → Bool) = ((fun p : List UInt8 => !p.isEmpty) ∘ trimL) := funext fun q => by simp [trim_low, e]
  have e2 : (trimL ∘ lowL) = (lowL ∘ trimL) := funext fun q => by simp [trim_low]
  rw [e1, e2]
theorem gives_low (l : List ByteArray) : gives (l.map lowS) = (gives l).map lowS := by
  induction l with
  | nil => rfl
  | cons a r ih =>
    have e : ∀ (a : ByteArray) r, gives (a :: r) = (elemsL (toL a)).map ofL ++ gives r := fun a r => by unfold gives elemsAll; rw [List.map_cons, List.flatten_cons, List.map_append]
    rw [List.map_cons, e, e, ih, List.map_append, toL_lowS, elems_low, List.map_map, List.map_map]
    rfl
theorem total_low (l : List ByteArray) : total (l.map lowS) = total l := by
  unfold total
  rw [List.map_map]
  congr 1
  refine List.map_congr_left (fun s _ => ?_)
  have : (lowS s).size = s.size := by rw [← toL_length, toL_lowS, lowL, List.length_map, toL_length]
  simp [this]
theorem toks_low (l : List ByteArray) : toks (l.map lowS) = toks l := by
  unfold toks
  rw [List.map_map]
  exact List.map_congr_left (fun s _ => lowS_low s)
theorem all_low (l : List ByteArray) : (l.map lowS).all isTok = l.all isTok := by
  rw [List.all_map]
  have : (isTok ∘ lowS) = isTok := funext isTok_low
  rw [this]
theorem tokList_low (l : List ByteArray) : tokList (l.map lowS) = tokList l := by
  have h1 := all_low (gives l)
  have h2 := toks_low (gives l)
  unfold tokList
  rw [gives_low]
  rw [show LOct.isTok = isTok from rfl, h1, h2]
theorem tokOk_low (l : List ByteArray) : tokOk (l.map lowS) = tokOk l := by
  have h1 := all_low (gives l)
  unfold tokOk
  rw [gives_low]
  rw [show LOct.isTok = isTok from rfl, h1]
  cases gives l <;> rfl
theorem has_low1 (w : ByteArray) (xs : List ByteArray) : hasW (lowS w) xs = hasW w xs := by
  unfold hasW
  have e : LTok.lowS (lowS w) = LTok.lowS w := lowS_low w
  rw [e]
theorem has_low2 (w : ByteArray) (xs : List ByteArray) : hasW w (xs.map lowS) = hasW w xs := by
  unfold hasW
  rw [List.any_map]
  have e : ∀ x, LTok.lowS (lowS x) = LTok.lowS x := lowS_low
  congr 1
  funext x
  simp [e]

end Go.Proofs.YthilbpgkhjchcaaDoor.LPlain
end
