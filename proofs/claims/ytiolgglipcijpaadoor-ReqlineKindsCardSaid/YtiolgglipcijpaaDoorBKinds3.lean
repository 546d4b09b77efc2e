/- The law 'ReqlineKinds', on what the functions give: for every input it comes to true. What the listed package-level variables hold, read out of the condition of a row; a world that meets it. The law 'ReqlineKinds' returns true for every input, and each argument reads afterwards as it read before. Conditions: none but the row's own cells (what the listed package-level variables hold is tied to the program's text by the card). -/
import Derived.Test.YtiolgglipcijpaaDoorBKinds0
import Derived.Test.YtiolgglipcijpaaDoorBKinds2
import Derived.Test.YtiolgglipcijpaaDoorBKinds1
import Derived.Test.YtiolgglipcijpaaDoorRows
import Derived.ProofKit
import Derived.OpenShut
import Derived.LaidMore
import Derived.LaidSub
import Derived.Lay
import Derived.Handed
import Derived.HandedShaped
import Derived.Shelf.Vars
import Derived.Stop.Joined
import Derived.Test.YtiolgglipcijpaaDoorCards
import Derived.Test.YtiolgglipcijpaaDoorTie
import Derived.WalkKit
import Derived.ShutString
import Derived.ChangeOld
import Derived.Below
import Derived.SizedLaws
import Derived.SliceStrings
import Derived.SevenTiedAt

section
namespace Go.Proofs.YtiolgglipcijpaaDoor.P
open Go.RowKit Go.Proofs.YtiolgglipcijpaaDoorW.PrintWords Go.Proofs.YtiolgglipcijpaaDoorW.PrintLast Go.Proofs.YtiolgglipcijpaaDoorW.PrintMore
attribute [local go_sem] max2_int min2_int max_two min_two max_three min_three max_four min_four   -- for this text's walks alone
set_option linter.unusedVariables false
set_option linter.unusedSimpArgs false

/-! ### doorkeeperlaw10_ReqlineKinds: function 5 -/
mutual
def doorkeeperlaw10_ReqlineKinds.j0 : Nat → ByteArray → Int → Bool → Option (Bool)
  | 0, _, _, _ => none
  | k + 1, x0, x1, x14 => if x14 = true then ((doorkeeperlaw10_awake.f).bind fun t192 => (some t192)) else ((reqline_Kind.f x0).bind fun t193 => ((doorkeeperref10_Kind.f k x0).bind fun t194 => (if t193 = t194 then ((reqline_Methods.f x1).bind fun t195 => (doorkeeperlaw10_ReqlineKinds.l0 k x1 t195 0)) else (some false))))
def doorkeeperlaw10_ReqlineKinds.l0 : Nat → Int → List ByteArray → Int → Option (Bool)
  | 0, _, _, _ => none
  | k + 1, x1, x5, x6 => if x6 < (x5.length : Int) then (if 0 ≤ x6 then ((doorkeeperref10_Kind.f k (rdOf ByteArray.empty x5 x6)).bind fun t199 => (if t199 = x1 then (doorkeeperlaw10_ReqlineKinds.l0 k x1 x5 (wrap64 (x6 + 1))) else (some false))) else (none)) else (if x1 ≥ 1 then (doorkeeperlaw10_ReqlineKinds.j2 k x1 x5 0 (decide (x1 ≤ 3))) else (doorkeeperlaw10_ReqlineKinds.j2 k x1 x5 0 false))
def doorkeeperlaw10_ReqlineKinds.j2 : Nat → Int → List ByteArray → Int → Bool → Option (Bool)
  | 0, _, _, _, _ => none
  | k + 1, x1, x5, x7, x41 => if x41 = true then (if x1 = 4 then (some ((x5.length : Int) == 6)) else (some ((x5.length : Int) == 1))) else (if x1 = 4 then (some ((x5.length : Int) == 6)) else (some ((x5.length : Int) == x7)))
end
def doorkeeperlaw10_ReqlineKinds.f (k : Nat) (a0 : ByteArray) (a1 : Int) : Option (Bool) := (doorkeeperlaw10_awake.f).bind fun t191 => (if t191 = true then (doorkeeperlaw10_ReqlineKinds.j0 k a0 a1 (decide ((a0.size : Int) > 100))) else (doorkeeperlaw10_ReqlineKinds.j0 k a0 a1 true))
theorem doorkeeperlaw10_ReqlineKinds.mono_l : ∀ k, (∀ y0 y1 y2, LeO (doorkeeperlaw10_ReqlineKinds.j0 k y0 y1 y2) (doorkeeperlaw10_ReqlineKinds.j0 (k + 1) y0 y1 y2)) ∧ (∀ y0 y1 y2, LeO (doorkeeperlaw10_ReqlineKinds.l0 k y0 y1 y2) (doorkeeperlaw10_ReqlineKinds.l0 (k + 1) y0 y1 y2)) ∧ (∀ y0 y1 y2 y3, LeO (doorkeeperlaw10_ReqlineKinds.j2 k y0 y1 y2 y3) (doorkeeperlaw10_ReqlineKinds.j2 (k + 1) y0 y1 y2 y3))
  | 0 => ⟨fun _ _ _ r h => by simp [doorkeeperlaw10_ReqlineKinds.j0] at h, fun _ _ _ r h => by simp [doorkeeperlaw10_ReqlineKinds.l0] at h, fun _ _ _ _ r h => by simp [doorkeeperlaw10_ReqlineKinds.j2] at h⟩
  | k + 1 => by
    obtain ⟨ih0, ih1, ih2⟩ := doorkeeperlaw10_ReqlineKinds.mono_l k
    refine ⟨?_, ?_, ?_⟩
    · intro y0 y1 y2
      unfold doorkeeperlaw10_ReqlineKinds.j0
      repeat' first
      | (with_reducible exact ih0 _ _ _)
      | (with_reducible exact ih1 _ _ _)
      | (with_reducible exact ih2 _ _ _ _)
      | (with_reducible exact doorkeeperref10_Kind.mono _ _)
      | (with_reducible exact LeO.refl _)
      | (with_reducible exact LeO.none _)
      | (with_reducible refine LeO.ite ?_ ?_)
      | (with_reducible refine LeO.bind ?_ (fun _ => ?_))
      | exact ih0 _ _ _
      | exact ih1 _ _ _
      | exact ih2 _ _ _ _
      | exact doorkeeperref10_Kind.mono _ _
      | exact LeO.none _
      | refine LeO.ite ?_ ?_
      | refine LeO.bind ?_ (fun _ => ?_)
    · intro y0 y1 y2
      unfold doorkeeperlaw10_ReqlineKinds.l0
      repeat' first
      | (with_reducible exact ih0 _ _ _)
      | (with_reducible exact ih1 _ _ _)
      | (with_reducible exact ih2 _ _ _ _)
      | (with_reducible exact doorkeeperref10_Kind.mono _ _)
      | (with_reducible exact LeO.refl _)
      | (with_reducible exact LeO.none _)
      | (with_reducible refine LeO.ite ?_ ?_)
      | (with_reducible refine LeO.bind ?_ (fun _ => ?_))
      | exact ih0 _ _ _
      | exact ih1 _ _ _
      | exact ih2 _ _ _ _
      | exact doorkeeperref10_Kind.mono _ _
      | exact LeO.none _
      | refine LeO.ite ?_ ?_
      | refine LeO.bind ?_ (fun _ => ?_)
    · intro y0 y1 y2 y3
      unfold doorkeeperlaw10_ReqlineKinds.j2
      repeat' first
      | (with_reducible exact ih0 _ _ _)
      | (with_reducible exact ih1 _ _ _)
      | (with_reducible exact ih2 _ _ _ _)
      | (with_reducible exact doorkeeperref10_Kind.mono _ _)
      | (with_reducible exact LeO.refl _)
      | (with_reducible exact LeO.none _)
      | (with_reducible refine LeO.ite ?_ ?_)
      | (with_reducible refine LeO.bind ?_ (fun _ => ?_))
      | exact ih0 _ _ _
      | exact ih1 _ _ _
      | exact ih2 _ _ _ _
      | exact doorkeeperref10_Kind.mono _ _
      | exact LeO.none _
      | refine LeO.ite ?_ ?_
      | refine LeO.bind ?_ (fun _ => ?_)
theorem doorkeeperlaw10_ReqlineKinds.mono : ∀ a0 a1 k, LeO (doorkeeperlaw10_ReqlineKinds.f k a0 a1) (doorkeeperlaw10_ReqlineKinds.f (k + 1) a0 a1) := by
  intro a0 a1 k
  obtain ⟨ih0, ih1, ih2⟩ := doorkeeperlaw10_ReqlineKinds.mono_l k
  unfold doorkeeperlaw10_ReqlineKinds.f
  repeat' first
      | (with_reducible exact ih0 _ _ _)
      | (with_reducible exact ih1 _ _ _)
      | (with_reducible exact ih2 _ _ _ _)
      | (with_reducible exact doorkeeperref10_Kind.mono _ _)
      | (with_reducible exact LeO.refl _)
      | (with_reducible exact LeO.none _)
      | (with_reducible refine LeO.ite ?_ ?_)
      | (with_reducible refine LeO.bind ?_ (fun _ => ?_))
      | exact ih0 _ _ _
      | exact ih1 _ _ _
      | exact ih2 _ _ _ _
      | exact doorkeeperref10_Kind.mono _ _
      | exact LeO.none _
      | refine LeO.ite ?_ ?_
      | refine LeO.bind ?_ (fun _ => ?_)
set_option maxHeartbeats 8000000 in
set_option maxRecDepth 100000 in
theorem doorkeeperlaw10_ReqlineKinds.calls (k : Nat) (a0 : ByteArray) (a1 : Int) (r : Bool) (w : World) (h : doorkeeperlaw10_ReqlineKinds.f k a0 a1 = some r) (hG0 : Glob w) :
    Calls Tryd.prog 5 #[.string a0, .int .i64 a1] w fun e w' => e = .returned (.bool r) ∧ Below w.heap.size w w' := by
  have HG := Aside0.mk hG0
  clear hG0
  have HB := Aside0.mk (Below.refl w.heap.size w)
  have H : ((doorkeeperlaw10_awake.f).bind fun t191 => (if t191 = true then (doorkeeperlaw10_ReqlineKinds.j0 k a0 a1 (decide ((a0.size : Int) > 100))) else (doorkeeperlaw10_ReqlineKinds.j0 k a0 a1 true))) = some r := h
  clear h
  have HC3 := Aside0.mk H
  clear H
  go_enter Tryd.func5, Tryd.ntmps5
  go_upto_region 1 with (fail)
  go_cut [14] (fun v14 wc => ∃ (kq : Nat) (x14_2 : Bool), v14 = .bool x14_2 ∧ Aside0 (doorkeeperlaw10_ReqlineKinds.j0 kq a0 a1 x14_2 = some r) ∧ Aside0 (kq ≤ k) ∧ Aside0 (Below w.heap.size w wc))
  case first =>
    have H := HC3.out
    clear HC3
    replace H := Option.bind_eq_some_iff.mp H
    obtain ⟨t191, A40, H⟩ := H
    replace H : (if t191 = true then (doorkeeperlaw10_ReqlineKinds.j0 k a0 a1 (decide ((a0.size : Int) > 100))) else (doorkeeperlaw10_ReqlineKinds.j0 k a0 a1 true)) = some r := H
    have A4 := Aside0.mk A40
    clear A40
    by_cases c5 : t191 = true
    · subst c5
      have H1 : (doorkeeperlaw10_ReqlineKinds.j0 k a0 a1 (decide ((a0.size : Int) > 100))) = some r := by rw [if_pos rfl] at H; exact H
      clear H
      have H := H1
      clear H1
      have H' := Aside0.mk H
      clear H
      go_wp2_with (first | ((with_reducible refine gate_callee (f := 11) rfl ?_); refine goesL_ (some 8) rfl rfl Tryd.func11 (by kernel_rfl) rfl #[] rfl (by (try simp only [List.map_toArray, List.map_cons, List.map_nil]); first | done | rfl | (simp only [List.length_drop, List.length_take]; rfl)) ?_; (with_reducible refine (doorkeeperlaw10_awake.calls  true _ A4.out ?gG).mono ?_); (case gG => exact Glob.below HG.out (by repeat (first | (with_reducible first | exact HB.out | apply below_alloc | apply pw_below_drewN | apply below_drew1) | exact HB.out))); rintro e w6 ⟨rfl, hb⟩; refine ⟨_, rfl, ?_⟩; have n0_ := Aside0.mk (below_step (by repeat (first | (with_reducible first | exact HB.out | apply below_alloc | apply pw_below_drewN | apply below_drew1) | exact HB.out)) hb); clear HB; have HB := n0_; clear n0_; (try clear hb); (try clear hb2); (try clear hk); (try clear hi)))
      go_meet
      case rel => exact ⟨_, (decide ((a0.size : Int) > 100)), (by first | rfl | (simp; done) | (simp [*]; done)), H', ⟨by first | omega | exact Nat.le_refl _⟩, ⟨by repeat (first | (with_reducible first | exact HB.out | apply below_alloc | apply pw_below_drewN | apply below_drew1) | exact HB.out)⟩⟩
    · replace c5 := Bool.eq_false_iff.mpr c5
      subst c5
      have H1 : (doorkeeperlaw10_ReqlineKinds.j0 k a0 a1 true) = some r := by rw [if_neg (show ¬ (false = true) by decide)] at H; exact H
      clear H
      have H := H1
      clear H1
      have H' := Aside0.mk H
      clear H
      go_wp2_with (first | ((with_reducible refine gate_callee (f := 11) rfl ?_); refine goesL_ (some 8) rfl rfl Tryd.func11 (by kernel_rfl) rfl #[] rfl (by (try simp only [List.map_toArray, List.map_cons, List.map_nil]); first | done | rfl | (simp only [List.length_drop, List.length_take]; rfl)) ?_; (with_reducible refine (doorkeeperlaw10_awake.calls  false _ A4.out ?gG).mono ?_); (case gG => exact Glob.below HG.out (by repeat (first | (with_reducible first | exact HB.out | apply below_alloc | apply pw_below_drewN | apply below_drew1) | exact HB.out))); rintro e w7 ⟨rfl, hb⟩; refine ⟨_, rfl, ?_⟩; have n0_ := Aside0.mk (below_step (by repeat (first | (with_reducible first | exact HB.out | apply below_alloc | apply pw_below_drewN | apply below_drew1) | exact HB.out)) hb); clear HB; have HB := n0_; clear n0_; (try clear hb); (try clear hb2); (try clear hk); (try clear hi)))
      go_meet
      case rel => exact ⟨_, (true), (by first | rfl | (simp; done) | (simp [*]; done)), H', ⟨by first | omega | exact Nat.le_refl _⟩, ⟨by repeat (first | (with_reducible first | exact HB.out | apply below_alloc | apply pw_below_drewN | apply below_drew1) | exact HB.out)⟩⟩
  case rest =>
    clear HC3
    try clear c1
    try clear p2
    try clear c5
    obtain ⟨kq, x14_2, rfl, HA, HJ2, HB⟩ := hcut
    cases kq with
    | zero => exact absurd HA.out (by simp [doorkeeperlaw10_ReqlineKinds.j0])
    | succ kj2 =>
      have H := HA.out
      clear HA
      simp only [doorkeeperlaw10_ReqlineKinds.j0] at H
      by_cases c8 : x14_2 = true
      · subst c8
        have H1 : ((doorkeeperlaw10_awake.f).bind fun t192 => (some t192)) = some r := by rw [if_pos rfl] at H; exact H
        clear H
        have H := H1
        clear H1
        replace H := Option.bind_eq_some_iff.mp H
        obtain ⟨t192, A90, H⟩ := H
        replace H : (some t192) = some r := H
        have A9 := Aside0.mk A90
        clear A90
        obtain rfl := Option.some.inj H
        go_wp2_with (first | ((with_reducible refine gate_callee (f := 11) rfl ?_); refine goesL_ (some 15) rfl rfl Tryd.func11 (by kernel_rfl) rfl #[] rfl (by (try simp only [List.map_toArray, List.map_cons, List.map_nil]); first | done | rfl | (simp only [List.length_drop, List.length_take]; rfl)) ?_; (with_reducible refine (doorkeeperlaw10_awake.calls  t192 _ A9.out ?gG).mono ?_); (case gG => exact Glob.below HG.out (by repeat (first | (with_reducible first | exact HB.out | apply below_alloc | apply pw_below_drewN | apply below_drew1) | exact HB.out))); rintro e w10 ⟨rfl, hb⟩; refine ⟨_, rfl, ?_⟩; have n0_ := Aside0.mk (below_step (by repeat (first | (with_reducible first | exact HB.out | apply below_alloc | apply pw_below_drewN | apply below_drew1) | exact HB.out)) hb); clear HB; have HB := n0_; clear n0_; (try clear hb); (try clear hb2); (try clear hk); (try clear hi)))
        go_ret
        exact ⟨by first | rfl | (simp [errW_none, errW_some] <;> rfl) | (simp [*, errW_none, errW_some] <;> rfl), by repeat (first | (with_reducible first | exact HB.out | apply below_alloc | apply pw_below_drewN | apply below_drew1) | exact HB.out)⟩
      · replace c8 := Bool.eq_false_iff.mpr c8
        subst c8
        have H1 : ((reqline_Kind.f a0).bind fun t193 => ((doorkeeperref10_Kind.f kj2 a0).bind fun t194 => (if t193 = t194 then ((reqline_Methods.f a1).bind fun t195 => (doorkeeperlaw10_ReqlineKinds.l0 kj2 a1 t195 0)) else (some false)))) = some r := by rw [if_neg (show ¬ (false = true) by decide)] at H; exact H
        clear H
        have H := H1
        clear H1
        replace H := Option.bind_eq_some_iff.mp H
        obtain ⟨t193, A110, H⟩ := H
        replace H : ((doorkeeperref10_Kind.f kj2 a0).bind fun t194 => (if t193 = t194 then ((reqline_Methods.f a1).bind fun t195 => (doorkeeperlaw10_ReqlineKinds.l0 kj2 a1 t195 0)) else (some false))) = some r := H
        have A11 := Aside0.mk A110
        clear A110
        replace H := Option.bind_eq_some_iff.mp H
        obtain ⟨t194, A120, H⟩ := H
        replace H : (if t193 = t194 then ((reqline_Methods.f a1).bind fun t195 => (doorkeeperlaw10_ReqlineKinds.l0 kj2 a1 t195 0)) else (some false)) = some r := H
        have A12 := Aside0.mk A120
        clear A120
        by_cases c13 : t193 = t194
        · rw [if_pos c13] at H
          have c13b0 : (t193 == t194) = true := beq_iff_eq.mpr c13
          have c13b1 : (t193 != t194) = false := bne_eq_false_iff_eq.mpr c13
          clear c13
          replace H := Option.bind_eq_some_iff.mp H
          obtain ⟨t195, A140, H⟩ := H
          replace H : (doorkeeperlaw10_ReqlineKinds.l0 kj2 a1 t195 0) = some r := H
          have A14 := Aside0.mk A140
          clear A140
          have H' := Aside0.mk H
          clear H
          go_wp2_with (first | ((with_reducible refine gate_callee (f := 17) rfl ?_); refine goesL_ (some 17) rfl rfl Tryd.func17 (by kernel_rfl) rfl #[.string a0] rfl (by (try simp only [List.map_toArray, List.map_cons, List.map_nil]); first | done | rfl | (simp only [List.length_drop, List.length_take]; rfl)) ?_; (with_reducible refine (reqline_Kind.calls a0 t193 _ A11.out ?gG).mono ?_); (case gG => exact Glob.below HG.out (by repeat (first | (with_reducible first | exact HB.out | apply below_alloc | apply pw_below_drewN | apply below_drew1) | exact HB.out))); rintro e w15 ⟨rfl, hb⟩; refine ⟨_, rfl, ?_⟩; have n0_ := Aside0.mk (below_step (by repeat (first | (with_reducible first | exact HB.out | apply below_alloc | apply pw_below_drewN | apply below_drew1) | exact HB.out)) hb); clear HB; have HB := n0_; clear n0_; (try clear hb); (try clear hb2); (try clear hk); (try clear hi)) | ((with_reducible refine gate_callee (f := 18) rfl ?_); refine goesL_ (some 19) rfl rfl Tryd.func18 (by kernel_rfl) rfl #[.string a0] rfl (by (try simp only [List.map_toArray, List.map_cons, List.map_nil]); first | done | rfl | (simp only [List.length_drop, List.length_take]; rfl)) ?_; (with_reducible refine (doorkeeperref10_Kind.calls kj2 a0 t194 _ A12.out).mono ?_); rintro e w16 ⟨rfl, hb⟩; refine ⟨_, rfl, ?_⟩; have n0_ := Aside0.mk (below_step (by repeat (first | (with_reducible first | exact HB.out | apply below_alloc | apply pw_below_drewN | apply below_drew1) | exact HB.out)) hb); clear HB; have HB := n0_; clear n0_; (try clear hb); (try clear hb2); (try clear hk); (try clear hi)) | ((with_reducible refine gate_callee (f := 19) rfl ?_); refine goesL_ (some 22) rfl rfl Tryd.func19 (by kernel_rfl) rfl #[.int .i64 a1] rfl (by (try simp only [List.map_toArray, List.map_cons, List.map_nil]); first | done | rfl | (simp only [List.length_drop, List.length_take]; rfl)) ?_; (with_reducible refine (reqline_Methods.calls a1 t195 _ A14.out ?gG).mono ?_); (case gG => exact Glob.below HG.out (by repeat (first | (with_reducible first | exact HB.out | apply below_alloc | apply pw_below_drewN | apply below_drew1) | exact HB.out))); rintro e w17 ⟨v196, rfl, ho0, hb⟩; refine ⟨_, rfl, ?_⟩; have n0_ := Aside0.mk (Kd.R_lower ho0 (below_size (by repeat (first | (with_reducible first | exact HB.out | apply below_alloc | apply pw_below_drewN | apply below_drew1) | exact HB.out)))); have n1_ := Aside0.mk (below_step (by repeat (first | (with_reducible first | exact HB.out | apply below_alloc | apply pw_below_drewN | apply below_drew1) | exact HB.out)) hb); clear HB; have HO197 := n0_; have HB := n1_; clear n0_ n1_; (try clear hb); (try clear hb2); (try clear hk); (try clear hi); (try clear ho0)))
          go_loopg [6] kj2 (fun kq v6 w' => ∃ (x6_2 : Int), v6 = .int .i64 x6_2 ∧ Aside0 (doorkeeperlaw10_ReqlineKinds.l0 kq a1 t195 x6_2 = some r) ∧ Aside0 (kq ≤ kj2) ∧ Aside0 (Kd.R Kd.string 9 w' w.heap.size (fun _ => True) v196 t195) ∧ Aside0 (Below w.heap.size w w'))
          case atStart => exact ⟨(0), (by first | rfl | (simp; done) | (simp [*]; done)), H', ⟨Nat.le_refl _⟩, ⟨by (with_reducible repeat (first | apply Kd.R_alloc | apply Kd.R_drewN | apply Kd.R_drew)); exact HO197.out⟩, ⟨by repeat (first | (with_reducible first | exact HB.out | apply below_alloc | apply pw_below_drewN | apply below_drew1) | exact HB.out)⟩⟩
          case round =>
            clear H'
            try clear c1
            try clear p2
            try clear c5
            try clear c8
            try clear c11
            try clear c13
            try clear c13b0
            try clear c13b1
            try clear c17
            try clear p2
            obtain ⟨x6_2, rfl, HA, HK2, HO_5, HB⟩ := hrel
            cases gk with
            | zero => exact absurd HA.out (by simp [doorkeeperlaw10_ReqlineKinds.l0])
            | succ k2 =>
              have H := HA.out
              clear HA
              simp only [doorkeeperlaw10_ReqlineKinds.l0] at H
              by_cases c18 : x6_2 < (t195.length : Int)
              · rw [if_pos c18] at H
                have c18b0 : decide (x6_2 < (t195.length : Int)) = true := decide_eq_true c18
                clear c18
                by_cases c19 : 0 ≤ x6_2
                · rw [if_pos c19] at H
                  have c19b0 : decide (0 ≤ x6_2) = true := decide_eq_true c19
                  clear c19
                  replace H := Option.bind_eq_some_iff.mp H
                  obtain ⟨t199, A200, H⟩ := H
                  replace H : (if t199 = a1 then (doorkeeperlaw10_ReqlineKinds.l0 k2 a1 t195 (wrap64 (x6_2 + 1))) else (some false)) = some r := H
                  have A20 := Aside0.mk A200
                  clear A200
                  by_cases c21 : t199 = a1
                  · rw [if_pos c21] at H
                    have c21b0 : (t199 == a1) = true := beq_iff_eq.mpr c21
                    have c21b1 : (t199 != a1) = false := bne_eq_false_iff_eq.mpr c21
                    clear c21
                    have H' := Aside0.mk H
                    clear H
                    obtain ⟨Ao22, co22, eo22⟩ := Kd.R_slice HO_5.out
                    subst eo22
                    have p198 : 0 ≤ (x6_2 : Int) := of_decide_eq_true (by first | (with_reducible assumption) | assumption)
                    have q198 : x6_2 < (t195.length : Int) := of_decide_eq_true (by first | (with_reducible assumption) | assumption)
                    obtain ⟨ad198, e198, hx198_0⟩ := Kd.at_string (Kd.R_reads' HO_5.out).2.2 x6_2 p198 q198
                    cases e198
                    replace p198 := eq_true p198
                    replace q198 := eq_true q198
                    go_wp2_with (first | ((with_reducible refine gate_callee (f := 18) rfl ?_); refine goesL_ (some 33) rfl rfl Tryd.func18 (by kernel_rfl) rfl #[.string (rdOf ByteArray.empty t195 x6_2)] rfl (by (try simp only [List.map_toArray, List.map_cons, List.map_nil]); first | done | rfl | (simp only [List.length_drop, List.length_take]; rfl)) ?_; (with_reducible refine (doorkeeperref10_Kind.calls k2 (rdOf ByteArray.empty t195 x6_2) t199 _ A20.out).mono ?_); rintro e w23 ⟨rfl, hb⟩; refine ⟨_, rfl, ?_⟩; have n0_ := Aside0.mk (Kd.R_below (by (with_reducible repeat (first | apply Kd.R_alloc | apply Kd.R_drewN | apply Kd.R_drew)); exact HO_5.out) hb); have n1_ := Aside0.mk (below_step (by repeat (first | (with_reducible first | exact HB.out | apply below_alloc | apply pw_below_drewN | apply below_drew1) | exact HB.out)) hb); clear HO_5; clear HB; have HO_5 := n0_; have HB := n1_; clear n0_ n1_; (try clear hb); (try clear hb2); (try clear hk); (try clear hi)))
                    go_roundg k2
                    case measure => have := HJ2.out; have := HK2.out; omega
                    case rel => exact ⟨(wrap64 (x6_2 + 1)), (by first | rfl | (simp; done) | (simp [*]; done)), H', ⟨by have := HJ2.out; have := HK2.out; omega⟩, ⟨by (with_reducible repeat (first | apply Kd.R_alloc | apply Kd.R_drewN | apply Kd.R_drew)); exact HO_5.out⟩, ⟨by repeat (first | (with_reducible first | exact HB.out | apply below_alloc | apply pw_below_drewN | apply below_drew1) | exact HB.out)⟩⟩
                  · rw [if_neg c21] at H
                    have c21b0 : (t199 == a1) = false := beq_eq_false_iff_ne.mpr c21
                    have c21b1 : (t199 != a1) = true := bne_iff_ne.mpr c21
                    obtain rfl := Option.some.inj H
                    obtain ⟨Ao24, co24, eo24⟩ := Kd.R_slice HO_5.out
                    subst eo24
                    have p198 : 0 ≤ (x6_2 : Int) := of_decide_eq_true (by first | (with_reducible assumption) | assumption)
                    have q198 : x6_2 < (t195.length : Int) := of_decide_eq_true (by first | (with_reducible assumption) | assumption)
                    obtain ⟨ad198, e198, hx198_0⟩ := Kd.at_string (Kd.R_reads' HO_5.out).2.2 x6_2 p198 q198
                    cases e198
                    replace p198 := eq_true p198
                    replace q198 := eq_true q198
                    go_wp2_with (first | ((with_reducible refine gate_callee (f := 18) rfl ?_); refine goesL_ (some 33) rfl rfl Tryd.func18 (by kernel_rfl) rfl #[.string (rdOf ByteArray.empty t195 x6_2)] rfl (by (try simp only [List.map_toArray, List.map_cons, List.map_nil]); first | done | rfl | (simp only [List.length_drop, List.length_take]; rfl)) ?_; (with_reducible refine (doorkeeperref10_Kind.calls k2 (rdOf ByteArray.empty t195 x6_2) t199 _ A20.out).mono ?_); rintro e w25 ⟨rfl, hb⟩; refine ⟨_, rfl, ?_⟩; have n0_ := Aside0.mk (Kd.R_below (by (with_reducible repeat (first | apply Kd.R_alloc | apply Kd.R_drewN | apply Kd.R_drew)); exact HO_5.out) hb); have n1_ := Aside0.mk (below_step (by repeat (first | (with_reducible first | exact HB.out | apply below_alloc | apply pw_below_drewN | apply below_drew1) | exact HB.out)) hb); clear HO_5; clear HB; have HO_5 := n0_; have HB := n1_; clear n0_ n1_; (try clear hb); (try clear hb2); (try clear hk); (try clear hi)))
                    go_ret
                    exact ⟨by first | rfl | (simp [errW_none, errW_some] <;> rfl) | (simp [*, errW_none, errW_some] <;> rfl), by repeat (first | (with_reducible first | exact HB.out | apply below_alloc | apply pw_below_drewN | apply below_drew1) | exact HB.out)⟩
                · rw [if_neg c19] at H
                  exact absurd H (by simp)
              · rw [if_neg c18] at H
                have c18b0 : decide (x6_2 < (t195.length : Int)) = false := decide_eq_false c18
                clear c18
                have HC26 := Aside0.mk H
                clear H
                obtain ⟨Ao27, co27, eo27⟩ := Kd.R_slice HO_5.out
                subst eo27
                go_upto_region 12 with (fail)
                go_cut [41] (fun v41 wc => ∃ (kq : Nat) (x41_25 : Bool), v41 = .bool x41_25 ∧ Aside0 (doorkeeperlaw10_ReqlineKinds.j2 kq a1 t195 0 x41_25 = some r) ∧ Aside0 (kq ≤ k2) ∧ Aside0 (Kd.R Kd.string 9 wc w.heap.size (fun _ => True) (.slice Ao27 t195.length co27) t195) ∧ Aside0 (Below w.heap.size w wc))
                case first =>
                  have H := HC26.out
                  clear HC26
                  by_cases c28 : a1 ≥ 1
                  · rw [if_pos c28] at H
                    have c28b0 : decide (1 ≤ a1) = true := decide_eq_true c28
                    clear c28
                    (first | rw [c28b0] | (simp only [i64_w, i32_w]; rw [c28b0]) | skip)
                    have H' := Aside0.mk H
                    clear H
                    go_wp2
                    go_meet
                    case rel => exact ⟨_, (decide (a1 ≤ 3)), (by first | rfl | (simp; done) | (simp [*]; done)), H', ⟨by have := HJ2.out; have := HK2.out; first | omega | exact Nat.le_refl _⟩, ⟨by (with_reducible repeat (first | apply Kd.R_alloc | apply Kd.R_drewN | apply Kd.R_drew)); exact HO_5.out⟩, ⟨by repeat (first | (with_reducible first | exact HB.out | apply below_alloc | apply pw_below_drewN | apply below_drew1) | exact HB.out)⟩⟩
                  · rw [if_neg c28] at H
                    have c28b0 : decide (1 ≤ a1) = false := decide_eq_false c28
                    clear c28
                    (first | rw [c28b0] | (simp only [i64_w, i32_w]; rw [c28b0]) | skip)
                    have H' := Aside0.mk H
                    clear H
                    go_wp2
                    go_meet
                    case rel => exact ⟨_, (false), (by first | rfl | (simp; done) | (simp [*]; done)), H', ⟨by have := HJ2.out; have := HK2.out; first | omega | exact Nat.le_refl _⟩, ⟨by (with_reducible repeat (first | apply Kd.R_alloc | apply Kd.R_drewN | apply Kd.R_drew)); exact HO_5.out⟩, ⟨by repeat (first | (with_reducible first | exact HB.out | apply below_alloc | apply pw_below_drewN | apply below_drew1) | exact HB.out)⟩⟩
                case rest =>
                  clear HC26
                  try clear c1
                  try clear p1
                  try clear q1
                  try clear hx1
                  try clear c2
                  try clear p2
                  try clear c5
                  try clear p6
                  try clear c8
                  try clear c11
                  try clear c13
                  try clear c13b0
                  try clear c13b1
                  try clear c17
                  try clear c18
                  try clear c18b0
                  try clear c19
                  try clear c19b0
                  try clear p19
                  try clear q19
                  try clear hx19
                  try clear c21
                  try clear c21b0
                  try clear c21b1
                  try clear c28
                  try clear c28b0
                  try clear hx198_0
                  try clear p198
                  try clear p2
                  try clear q198
                  obtain ⟨kq, x41_25, rfl, HA, HJ25, HO_5, HB⟩ := hcut
                  cases kq with
                  | zero => exact absurd HA.out (by simp [doorkeeperlaw10_ReqlineKinds.j2])
                  | succ kj25 =>
                    have H := HA.out
                    clear HA
                    simp only [doorkeeperlaw10_ReqlineKinds.j2] at H
                    by_cases c29 : x41_25 = true
                    · subst c29
                      have H1 : (if a1 = 4 then (some ((t195.length : Int) == 6)) else (some ((t195.length : Int) == 1))) = some r := by rw [if_pos rfl] at H; exact H
                      clear H
                      have H := H1
                      clear H1
                      by_cases c30 : a1 = 4
                      · rw [if_pos c30] at H
                        have c30b0 : (a1 == 4) = true := beq_iff_eq.mpr c30
                        have c30b1 : (a1 != 4) = false := bne_eq_false_iff_eq.mpr c30
                        clear c30
                        obtain rfl := Option.some.inj H
                        go_wp2
                        go_ret
                        exact ⟨by first | rfl | (simp [errW_none, errW_some] <;> rfl) | (simp [*, errW_none, errW_some] <;> rfl), by repeat (first | (with_reducible first | exact HB.out | apply below_alloc | apply pw_below_drewN | apply below_drew1) | exact HB.out)⟩
                      · rw [if_neg c30] at H
                        have c30b0 : (a1 == 4) = false := beq_eq_false_iff_ne.mpr c30
                        have c30b1 : (a1 != 4) = true := bne_iff_ne.mpr c30
                        obtain rfl := Option.some.inj H
                        go_wp2
                        go_ret
                        exact ⟨by first | rfl | (simp [errW_none, errW_some] <;> rfl) | (simp [*, errW_none, errW_some] <;> rfl), by repeat (first | (with_reducible first | exact HB.out | apply below_alloc | apply pw_below_drewN | apply below_drew1) | exact HB.out)⟩
                    · replace c29 := Bool.eq_false_iff.mpr c29
                      subst c29
                      have H1 : (if a1 = 4 then (some ((t195.length : Int) == 6)) else (some ((t195.length : Int) == 0))) = some r := by rw [if_neg (show ¬ (false = true) by decide)] at H; exact H
                      clear H
                      have H := H1
                      clear H1
                      by_cases c31 : a1 = 4
                      · rw [if_pos c31] at H
                        have c31b0 : (a1 == 4) = true := beq_iff_eq.mpr c31
                        have c31b1 : (a1 != 4) = false := bne_eq_false_iff_eq.mpr c31
                        clear c31
                        obtain rfl := Option.some.inj H
                        go_wp2
                        go_ret
                        exact ⟨by first | rfl | (simp [errW_none, errW_some] <;> rfl) | (simp [*, errW_none, errW_some] <;> rfl), by repeat (first | (with_reducible first | exact HB.out | apply below_alloc | apply pw_below_drewN | apply below_drew1) | exact HB.out)⟩
                      · rw [if_neg c31] at H
                        have c31b0 : (a1 == 4) = false := beq_eq_false_iff_ne.mpr c31
                        have c31b1 : (a1 != 4) = true := bne_iff_ne.mpr c31
                        obtain rfl := Option.some.inj H
                        go_wp2
                        go_ret
                        exact ⟨by first | rfl | (simp [errW_none, errW_some] <;> rfl) | (simp [*, errW_none, errW_some] <;> rfl), by repeat (first | (with_reducible first | exact HB.out | apply below_alloc | apply pw_below_drewN | apply below_drew1) | exact HB.out)⟩
        · rw [if_neg c13] at H
          have c13b0 : (t193 == t194) = false := beq_eq_false_iff_ne.mpr c13
          have c13b1 : (t193 != t194) = true := bne_iff_ne.mpr c13
          obtain rfl := Option.some.inj H
          go_wp2_with (first | ((with_reducible refine gate_callee (f := 17) rfl ?_); refine goesL_ (some 17) rfl rfl Tryd.func17 (by kernel_rfl) rfl #[.string a0] rfl (by (try simp only [List.map_toArray, List.map_cons, List.map_nil]); first | done | rfl | (simp only [List.length_drop, List.length_take]; rfl)) ?_; (with_reducible refine (reqline_Kind.calls a0 t193 _ A11.out ?gG).mono ?_); (case gG => exact Glob.below HG.out (by repeat (first | (with_reducible first | exact HB.out | apply below_alloc | apply pw_below_drewN | apply below_drew1) | exact HB.out))); rintro e w32 ⟨rfl, hb⟩; refine ⟨_, rfl, ?_⟩; have n0_ := Aside0.mk (below_step (by repeat (first | (with_reducible first | exact HB.out | apply below_alloc | apply pw_below_drewN | apply below_drew1) | exact HB.out)) hb); clear HB; have HB := n0_; clear n0_; (try clear hb); (try clear hb2); (try clear hk); (try clear hi)) | ((with_reducible refine gate_callee (f := 18) rfl ?_); refine goesL_ (some 19) rfl rfl Tryd.func18 (by kernel_rfl) rfl #[.string a0] rfl (by (try simp only [List.map_toArray, List.map_cons, List.map_nil]); first | done | rfl | (simp only [List.length_drop, List.length_take]; rfl)) ?_; (with_reducible refine (doorkeeperref10_Kind.calls kj2 a0 t194 _ A12.out).mono ?_); rintro e w33 ⟨rfl, hb⟩; refine ⟨_, rfl, ?_⟩; have n0_ := Aside0.mk (below_step (by repeat (first | (with_reducible first | exact HB.out | apply below_alloc | apply pw_below_drewN | apply below_drew1) | exact HB.out)) hb); clear HB; have HB := n0_; clear n0_; (try clear hb); (try clear hb2); (try clear hk); (try clear hi)))
          go_ret
          exact ⟨by first | rfl | (simp [errW_none, errW_some] <;> rfl) | (simp [*, errW_none, errW_some] <;> rfl), by repeat (first | (with_reducible first | exact HB.out | apply below_alloc | apply pw_below_drewN | apply below_drew1) | exact HB.out)⟩


end Go.Proofs.YtiolgglipcijpaaDoor.P
end

section
namespace Go.Proofs.YtiolgglipcijpaaDoor.QPure
open Go Go.RowKit Go.Proofs.YtiolgglipcijpaaDoorW.PrintWords Go.Proofs.YtiolgglipcijpaaDoor.PB Go.Proofs.YtiolgglipcijpaaDoor.P

theorem aw10 : doorkeeperlaw10_awake.f = some true := by decide +kernel
theorem ev_true {f : Nat → Option Bool} {b : Bool} (h : b = true) (he : Ev f b) : Ev f true := by rw [← h]; exact he
theorem ev_const {α : Type} {o : Option α} {v : α} (h : o = some v) : Ev (fun _ => o) v := ⟨0, fun _ _ => h⟩
theorem wrap_succ {i n : Nat} (h : i < n) (hn : n ≤ 9223372036854775807) : wrap64 ((i : Int) + 1) = ((i + 1 : Nat) : Int) := by
  rw [wrap64_ok (by omega) (by omega)]; omega
theorem rd_nat (l : List ByteArray) (i : Nat) (h : i < l.length) : rdOf ByteArray.empty l (i : Int) = l[i] := by
  rw [rdOf, Int.toNat_natCast, List.getD_eq_getElem?_getD, List.getElem?_eq_getElem h]; rfl

def KL : List ByteArray := [⟨#[71, 69, 84]⟩, ⟨#[72, 69, 65, 68]⟩, ⟨#[79, 80, 84, 73, 79, 78, 83]⟩, ⟨#[80, 79, 83, 84]⟩, ⟨#[80, 85, 84]⟩, ⟨#[68, 69, 76, 69, 84, 69]⟩, ⟨#[80, 65, 84, 67, 72]⟩, ⟨#[84, 82, 65, 67, 69]⟩, ⟨#[67, 79, 78, 78, 69, 67, 84]⟩]
theorem kind_step (s : ByteArray) (i : Nat) (hi : i < 9) (r : Int) (hhit : KL[i].toList = s.toList → mn (wrap64 ((i : Int) + 1)) 4 = r) (hmiss : ¬ KL[i].toList = s.toList → Ev (fun k => doorkeeperref10_Kind.l0 k s KL ((i + 1 : Nat) : Int)) r) :
    Ev (fun k => doorkeeperref10_Kind.l0 k s KL (i : Int)) r := by
  have h9 : KL.length = 9 := rfl
  by_cases e : KL[i].toList = s.toList
  · refine Ev.step (f := fun _ => some r) (fun k => ?_) (Ev.now r)
    simp only [doorkeeperref10_Kind.l0]
    rw [if_pos (by omega), if_pos (by omega), rd_nat _ _ (by omega)]
    exact (if_pos e).trans (congrArg some (hhit e))
  · refine Ev.step (f := fun k => doorkeeperref10_Kind.l0 k s KL ((i + 1 : Nat) : Int)) (fun k => ?_) (hmiss e)
    simp only [doorkeeperref10_Kind.l0]
    rw [if_pos (by omega), if_pos (by omega), rd_nat _ _ (by omega), wrap_succ (i := i) (n := 9) (by omega) (by omega)]
    exact if_neg e
theorem kl_at (i : Nat) (hi : i < 9) (l : List UInt8) (h : (ofL l) = KL[i]) (s : ByteArray) : KL[i].toList = s.toList ↔ toL s = l := by
  rw [← h, toList_ofL, toList_toL]
  exact eq_comm
theorem kind_ev (s : ByteArray) : Ev (fun k => doorkeeperref10_Kind.f k s) (kindL (toL s)) := by
  have hf : ∀ k, doorkeeperref10_Kind.f k s = doorkeeperref10_Kind.l0 k s KL ((0 : Nat) : Int) := fun k => rfl
  refine Ev.congr hf ?_
  refine kind_step s 0 (by omega) _ (fun e => ?_) (fun h0 => ?_)
  · rw [(kl_at 0 (by omega) [71, 69, 84] rfl s).1 e]; decide +kernel
  rw [kl_at 0 (by omega) [71, 69, 84] rfl s] at h0
  refine kind_step s 1 (by omega) _ (fun e => ?_) (fun h1 => ?_)
  · rw [(kl_at 1 (by omega) [72, 69, 65, 68] rfl s).1 e]; decide +kernel
  rw [kl_at 1 (by omega) [72, 69, 65, 68] rfl s] at h1
  refine kind_step s 2 (by omega) _ (fun e => ?_) (fun h2 => ?_)
  · rw [(kl_at 2 (by omega) [79, 80, 84, 73, 79, 78, 83] rfl s).1 e]; decide +kernel
  rw [kl_at 2 (by omega) [79, 80, 84, 73, 79, 78, 83] rfl s] at h2
  refine kind_step s 3 (by omega) _ (fun e => ?_) (fun h3 => ?_)
  · rw [(kl_at 3 (by omega) [80, 79, 83, 84] rfl s).1 e]; decide +kernel
  rw [kl_at 3 (by omega) [80, 79, 83, 84] rfl s] at h3
  refine kind_step s 4 (by omega) _ (fun e => ?_) (fun h4 => ?_)
  · rw [(kl_at 4 (by omega) [80, 85, 84] rfl s).1 e]; decide +kernel
  rw [kl_at 4 (by omega) [80, 85, 84] rfl s] at h4
  refine kind_step s 5 (by omega) _ (fun e => ?_) (fun h5 => ?_)
  · rw [(kl_at 5 (by omega) [68, 69, 76, 69, 84, 69] rfl s).1 e]; decide +kernel
  rw [kl_at 5 (by omega) [68, 69, 76, 69, 84, 69] rfl s] at h5
  refine kind_step s 6 (by omega) _ (fun e => ?_) (fun h6 => ?_)
  · rw [(kl_at 6 (by omega) [80, 65, 84, 67, 72] rfl s).1 e]; decide +kernel
  rw [kl_at 6 (by omega) [80, 65, 84, 67, 72] rfl s] at h6
  refine kind_step s 7 (by omega) _ (fun e => ?_) (fun h7 => ?_)
  · rw [(kl_at 7 (by omega) [84, 82, 65, 67, 69] rfl s).1 e]; decide +kernel
  rw [kl_at 7 (by omega) [84, 82, 65, 67, 69] rfl s] at h7
  refine kind_step s 8 (by omega) _ (fun e => ?_) (fun h8 => ?_)
  · rw [(kl_at 8 (by omega) [67, 79, 78, 78, 69, 67, 84] rfl s).1 e]; decide +kernel
  rw [kl_at 8 (by omega) [67, 79, 78, 78, 69, 67, 84] rfl s] at h8
  refine Ev.step (f := fun _ => some 0) (fun k => ?_) (ev_const ?_)
  · simp only [doorkeeperref10_Kind.l0]
    rw [if_neg (by decide)]
  · simp [kindL, h0, h1, h2, h3, h4, h5, h6, h7, h8]

theorem meth_kind (k : Int) : ∀ i (h : i < (methL k).length), kindL (toL (methL k)[i]) = k := by
  have hall : ∀ m ∈ methL k, kindL (toL m) = k := by
    intro m hm
    unfold methL at hm
    split at hm
    · rename_i e; subst e; simp at hm; subst hm; decide
    split at hm
    · rename_i e; subst e; simp at hm; subst hm; decide
    split at hm
    · rename_i e; subst e; simp at hm; subst hm; decide
    split at hm
    · rename_i e; subst e
      have : ∀ m ∈ othersL, kindL (toL m) = 4 := by decide
      exact this m hm
    · simp at hm
  exact fun i h => hall _ (List.getElem_mem h)
theorem meth_len (k : Int) : ((methL k).length : Int) = if k = 4 then 6 else if 1 ≤ k ∧ k ≤ 3 then 1 else 0 := by
  unfold methL
  by_cases h1 : k = 1
  · subst h1; rfl
  by_cases h2 : k = 2
  · subst h2; rfl
  by_cases h3 : k = 3
  · subst h3; rfl
  by_cases h4 : k = 4
  · subst h4; rfl
  rw [if_neg h1, if_neg h2, if_neg h3, if_neg h4, if_neg h4, if_neg (by omega)]; rfl
theorem kinds_end (a1 : Int) : Ev (fun k => doorkeeperlaw10_ReqlineKinds.l0 k a1 (methL a1) ((methL a1).length : Int)) true := by
  have hl := meth_len a1
  refine Ev.step (f := fun k => doorkeeperlaw10_ReqlineKinds.l0 (k + 1) a1 (methL a1) ((methL a1).length : Int)) (fun _ => rfl) ?_
  simp only [doorkeeperlaw10_ReqlineKinds.l0]
  refine Ev.congr (fun k => if_neg (by omega)) ?_
  by_cases h1 : a1 ≥ 1
  · refine Ev.congr (fun k => if_pos h1) ?_
    refine Ev.step (f := fun k => doorkeeperlaw10_ReqlineKinds.j2 (k + 1) a1 (methL a1) 0 (decide (a1 ≤ 3))) (fun _ => rfl) ?_
    simp only [doorkeeperlaw10_ReqlineKinds.j2]
    by_cases h3 : a1 ≤ 3
    · refine Ev.congr (fun k => if_pos (by simpa using h3)) (Ev.congr (fun k => if_neg (by omega)) (ev_true ?_ (Ev.now _)))
      rw [hl, if_neg (by omega), if_pos ⟨by omega, h3⟩]; rfl
    · refine Ev.congr (fun k => if_neg (by simpa using h3)) ?_
      by_cases h4 : a1 = 4
      · refine Ev.congr (fun k => if_pos h4) (ev_true ?_ (Ev.now _))
        rw [hl, if_pos h4]; rfl
      · refine Ev.congr (fun k => if_neg h4) (ev_true ?_ (Ev.now _))
        rw [hl, if_neg h4, if_neg (by omega)]; rfl
  · refine Ev.congr (fun k => if_neg h1) ?_
    refine Ev.step (f := fun k => doorkeeperlaw10_ReqlineKinds.j2 (k + 1) a1 (methL a1) 0 false) (fun _ => rfl) ?_
    simp only [doorkeeperlaw10_ReqlineKinds.j2]
    refine Ev.congr (fun k => if_neg (by simp)) (Ev.congr (fun k => if_neg (by omega)) (ev_true ?_ (Ev.now _)))
    rw [hl, if_neg (by omega), if_neg (by omega)]; rfl
theorem kinds_l0 (a1 : Int) : ∀ (d i : Nat), (methL a1).length - i = d → i ≤ (methL a1).length → Ev (fun k => doorkeeperlaw10_ReqlineKinds.l0 k a1 (methL a1) (i : Int)) true := by
  have hb : (methL a1).length ≤ 6 := by
    have := meth_len a1
    split at this
    · omega
    · split at this <;> omega
  intro d
  induction d with
  | zero =>
    intro i hd hi
    obtain rfl : i = (methL a1).length := by omega
    exact kinds_end a1
  | succ d ih =>
    intro i hd hi
    have h1 : i < (methL a1).length := by omega
    refine Ev.step (f := fun k => doorkeeperlaw10_ReqlineKinds.l0 (k + 1) a1 (methL a1) (i : Int)) (fun _ => rfl) ?_
    simp only [doorkeeperlaw10_ReqlineKinds.l0]
    refine Ev.congr (fun k => if_pos (by omega)) (Ev.congr (fun k => if_pos (by omega)) ?_)
    rw [rd_nat _ _ h1, wrap_succ h1 (by omega)]
    refine Ev.bind (kind_ev _) ?_
    exact Ev.congr (fun k => if_pos (meth_kind a1 i h1)) (ih (i + 1) (by omega) (by omega))
theorem kinds_ev (a0 : ByteArray) (a1 : Int) : Ev (fun k => doorkeeperlaw10_ReqlineKinds.f k a0 a1) true := by
  unfold doorkeeperlaw10_ReqlineKinds.f
  refine Ev.bind (ev_const aw10) (Ev.congr (fun k => if_pos rfl) ?_)
  by_cases ha : ((a0.size : Int) > 100)
  · rw [decide_eq_true ha]
    refine Ev.step (f := fun k => doorkeeperlaw10_ReqlineKinds.j0 (k + 1) a0 a1 true) (fun _ => rfl) ?_
    simp only [doorkeeperlaw10_ReqlineKinds.j0]
    exact Ev.congr (fun k => if_pos trivial) (Ev.bind (ev_const aw10) (Ev.now true))
  · rw [decide_eq_false ha]
    refine Ev.step (f := fun k => doorkeeperlaw10_ReqlineKinds.j0 (k + 1) a0 a1 false) (fun _ => rfl) ?_
    simp only [doorkeeperlaw10_ReqlineKinds.j0]
    refine Ev.congr (fun k => if_neg (by simp)) ?_
    have hk : reqline_Kind.f a0 = some (kindL (toL a0)) := if_pos (by omega)
    refine Ev.bind (ev_const hk) (Ev.bind (kind_ev a0) (Ev.congr (fun k => if_pos rfl) ?_))
    refine Ev.bind (ev_const (o := reqline_Methods.f a1) (v := methL a1) rfl) ?_
    exact kinds_l0 a1 _ 0 rfl (Nat.zero_le _)
theorem ReqlineKinds (l0 : ByteArray) (_m0 : l0.size ≤ maxLen) (l1 : Int) (_m1 : (Lit.int .i64 l1).wf = true) : ∃ k, doorkeeperlaw10_ReqlineKinds.f k l0 l1 = some true := (kinds_ev l0 l1).rounds

end Go.Proofs.YtiolgglipcijpaaDoor.QPure
end

section
namespace Go.Proofs.YtiolgglipcijpaaDoor.RLaid
open Go Go.RowKit Go.Proofs.YtiolgglipcijpaaDoorW.PrintWords Go.Proofs.YtiolgglipcijpaaDoor.P Go.Proofs.YtiolgglipcijpaaDoor.RErr

/-- 'returnsInHanded_of_change_and' with the world's shape besides. -/
theorem returnsInHanded_of_change_and_shaped {H : Type} {enc : TypeId × Value → H} {a : Assume} {C : Checked} {os : Os} {f : FuncId} {fn : Func} {s : ChangeSpec} {conds : List PathCond} {apart fresh handsOn again : Bool} {X : World → Array Value → Prop}
    (hX : ∀ (w w' : World) (args : Array Value), w.heap = w'.heap → X w args → X w' args)
    (own : ownKnob C.prog.godebug = none) (started : os.Started) (noInit : C.prog.inits.idxOf? f = none) (hfn : C.prog.funcs[f]? = some fn)
    (witness : ∃ (w : World) (tape : Tape) (i : Input), w.os = os ∧ (w.forCall tape i).Shaped C.prog ∧ i.vars = [] ∧ Input.okWide C.prog (w.forCall tape i) .any w.heap.size f i ∧
      ((s.pre enc C.prog fn conds apart (w.forCall tape i).memory i.args ∧ X (w.forCall tape i).memory i.args) ∧ sizedMet enc C.prog fn (OpenSpec.ofChange s) apart (w.forCall tape i).memory i.args) ∧ a.holds C.prog (lone (Frame.enter C.prog f i.args .normal) [] (w.forCall tape i)))
    (contract : ∀ (W : World) (base : Nat) (args : Array Value) (ds gs : List (DataW H)) (before : List MemPlace),
      (∀ (j : Nat) t v, fn.params[j]? = some t → args[j]? = some v → Value.okWide C.prog W .any base t v) →
      DataW.Whole enc C.prog fn.params.toList s.vars apart W args.toList ds gs before →
      conds.all (PathCond.test C.prog ⟨fn.params.toList, ds, s.plain.varTypes C.prog, gs⟩) = true →
      (DataW.weightsEach C.prog (fn.params.toList ++ s.plain.varTypes C.prog) (ds ++ gs)).all (· ≤ reachBytes) = true → X W args → W.ShapedOpen C.prog →
      a.holds C.prog (lone (Frame.enter C.prog f args .normal) [] W) →
      Calls C.prog f args W fun e W' => ∃ v, e = .returned v ∧ s.post enc C.prog fn apart fresh handsOn again W args v W') :
    ReturnsInHanded a C os f .any (fun w args => (s.pre enc C.prog fn conds apart w args ∧ X w args) ∧ sizedMet enc C.prog fn (OpenSpec.ofChange s) apart w args) (s.post enc C.prog fn apart fresh handsOn again) := by
  refine returnsInHanded_of_calls own started noInit witness ?_
  intro w tape i _ hsh _ hok hpre hholds
  obtain ⟨_, _, _, fn', hfn', _, _, _, _, hval⟩ := hok
  have e : fn' = fn := Option.some.inj (hfn'.symm.trans hfn)
  subst e
  obtain ⟨⟨⟨ds, gs, before, hw, hc⟩, hx⟩, hz⟩ := hpre
  have hw' := DataW.Whole.of_heap (w' := w.forCall tape i) (by rfl) hw
  refine (contract (w.forCall tape i) w.heap.size i.args ds gs before hval hw' hc (hz.weights hw) (hX _ _ _ (by rfl) hx) hsh hholds).mono fun e W' ⟨v, he, hp⟩ => ?_
  subst he
  exact ChangeSpec.post_blind hp

def L : List (String × DataW Unit) := Rows.reqlineKindsRow.laid
theorem gErr : Tryd.prog.globalNamed "errors.errorType" = some 2 := by kernel_rfl
theorem gOthers : Tryd.prog.globalNamed "doorkeeper/reqline.others" = some 1 := by kernel_rfl
theorem gRules : Tryd.prog.globalNamed "doorkeeper/reqline.rules" = some 0 := by kernel_rfl
theorem tOthers : (Tryd.prog.globals[1]?).map (·.type) = some 72 := by kernel_rfl
theorem tRules : (Tryd.prog.globals[0]?).map (·.type) = some 62 := by kernel_rfl
theorem rt : (Tryd.prog.cutTypes.find? (·.1 == "internal/reflectlite.rtype")).map (·.2) = some 174 := by kernel_rfl
theorem oneRow : ((List.range 237).filter fun t => Tryd.prog.rowNamed t [101, 114, 114, 111, 114]) = [26] := by kernel_rfl
theorem size : Tryd.prog.types.size = 237 := by kernel_rfl

theorem err_of {W : World} (h : laidMetH Tryd.prog L W) : W.cell? ⟨2, 0, none⟩ = some eT := by
  have h' := (laidMetH_iff.1 h).2
  obtain ⟨name, u, ty, e1, e2, e3, e4, e5⟩ := h' ("errors.errorType", Rows.laid_errors_errorType) (List.mem_filter.2 ⟨by simp [L, Rows.reqlineKindsRow], by rfl⟩)
  have en : name = [101, 114, 114, 111, 114] := (Option.some.inj e1).symm
  subst en
  obtain rfl := Option.some.inj (rt.symm.trans e2)
  have hm : ty ∈ (List.range 237).filter fun t => Tryd.prog.rowNamed t [101, 114, 114, 111, 114] := List.mem_filter.2 ⟨List.mem_range.2 (by rw [← size]; exact e3), e4⟩
  rw [oneRow] at hm
  obtain rfl := List.mem_singleton.1 hm
  have hh : typeHandle Tryd.prog 26 = .pointer (some ⟨7, 26, none⟩) := by kernel_rfl
  rw [hh] at e5
  simpa [eT] using World.var?_cell gErr e5 0

theorem others_of {W : World} (h : laidMetH Tryd.prog L W) (j : Nat) (hj : j < 6) : ∃ s : ByteArray, W.cell? ⟨1, j, none⟩ = some (.string s) ∧
    some (s.data.toList) = [[80, 79, 83, 84], [80, 85, 84], [68, 69, 76, 69, 84, 69], [80, 65, 84, 67, 72], [84, 82, 65, 67, 69], [67, 79, 78, 78, 69, 67, 84]][j]? := by
  have h1 := (laidMetH_iff.1 h).1.filter (fun x => x.1 == "doorkeeper/reqline.others")
  have e : ((L.filter fun x => x.2.handleName?.isNone).filter fun x => x.1 == "doorkeeper/reqline.others") = [("doorkeeper/reqline.others", Rows.laid_doorkeeper_reqline_others)] := by kernel_rfl
  rw [e] at h1
  obtain ⟨ps, hv, _⟩ := h1
  obtain ⟨g, t, cs, fuel, p, q, hg, ht, hvar, htr, _, _⟩ := hv
  obtain rfl := Option.some.inj (gOthers.symm.trans hg)
  obtain rfl := Option.some.inj (tOthers.symm.trans ht)
  obtain ⟨xs, m, _, ex, hlen, hl, hel⟩ := DataW.trod_array Tryd.underlying72 htr
  have hx := hel j hj
  have hc9 : Tryd.prog.cellsOf 9 = 1 := by kernel_rfl
  rw [hc9, Nat.mul_one] at hx
  have hjx : j < xs.length := by omega
  rw [List.getElem?_eq_getElem hjx] at hx
  obtain ⟨s, hs, hy, _⟩ := DataW.trod_string Tryd.underlying9 hx
  refine ⟨s, ?_, ?_⟩
  · have hcell := World.var?_cell gOthers hvar j
    have hcs : cs[j]? = some (.string s) := by
      have : (cs.toList.drop j).take 1 = [.string s] := hs
      have h2 : cs.toList[j]? = some (.string s) := by
        have := congrArg (fun l => l[0]?) this
        simpa [List.getElem?_take, List.getElem?_drop] using this
      simpa using h2
    rw [hcs] at hcell
    simpa using hcell
  · have ex1 : (xs.map (·.1)) = [.lit (.string [80, 79, 83, 84]), .lit (.string [80, 85, 84]), .lit (.string [68, 69, 76, 69, 84, 69]), .lit (.string [80, 65, 84, 67, 72]), .lit (.string [84, 82, 65, 67, 69]), .lit (.string [67, 79, 78, 78, 69, 67, 84])] := by
      have := congrArg Prod.fst ex
      simp only [Rows.laid_doorkeeper_reqline_others, DataW.agg.injEq] at this
      exact this.symm
    have hg2 : (xs.map (·.1))[j]? = some (.lit (.string s.data.toList)) := by rw [List.getElem?_map, List.getElem?_eq_getElem hjx, hy]; rfl
    rw [ex1] at hg2
    match j, hj with
    | 0, _ => simp at hg2; simp [hg2]
    | 1, _ => simp at hg2; simp [hg2]
    | 2, _ => simp at hg2; simp [hg2]
    | 3, _ => simp at hg2; simp [hg2]
    | 4, _ => simp at hg2; simp [hg2]
    | 5, _ => simp at hg2; simp [hg2]

def RULESD : DataW Unit := .agg [.agg [.lit (.int .i64 0), .iface "func" (.lit (.string [100, 111, 111, 114, 107, 101, 101, 112, 101, 114, 47, 111, 99, 116, 101, 116, 46, 73, 115, 84, 111, 107, 101, 110])), .lit (.int .i64 400)], .agg [.lit (.int .i64 1), .iface "func" (.lit (.string [100, 111, 111, 114, 107, 101, 101, 112, 101, 114, 47, 114, 101, 113, 108, 105, 110, 101, 46, 114, 117, 108, 101, 115, 36, 49])), .lit (.int .i64 400)], .agg [.lit (.int .i64 2), .iface "func" (.lit (.string [100, 111, 111, 114, 107, 101, 101, 112, 101, 114, 47, 114, 101, 113, 108, 105, 110, 101, 46, 118, 101, 114, 115, 105, 111, 110])), .lit (.int .i64 400)], .agg [.lit (.int .i64 2), .iface "func" (.lit (.string [100, 111, 111, 114, 107, 101, 101, 112, 101, 114, 47, 114, 101, 113, 108, 105, 110, 101, 46, 115, 117, 112, 112, 111, 114, 116, 101, 100])), .lit (.int .i64 505)]]

set_option maxRecDepth 100000 in
theorem row_of {W : World} {m : Nat} {c : List Value} {y : DataW (List UInt8) × List MemPlace} {a st : Int} {b : UInt8} {r : List UInt8} {f0 : FuncId}
    (h : DataW.trod (funcToken Tryd.prog) Tryd.prog W 0 (fun _ => true) true m 61 c = some y) (hy : y.1 = .agg [.lit (.int .i64 a), .held (b :: r), .lit (.int .i64 st)])
    (hone : ((List.range Tryd.prog.funcs.size).filter fun f => (Tryd.prog.funcs[f]?).any (·.name.toUTF8.data.toList == b :: r)) = [f0]) : c = [.int .i64 a, .func (.func f0) #[] #[], .int .i64 st] := by
  obtain ⟨ys, n, _, hx, hlen, hl, hf⟩ := DataW.trod_struct Tryd.underlying61 h
  have c61 : Tryd.prog.cellsOf 61 = 3 := by kernel_rfl
  have c3 : Tryd.prog.cellsOf 3 = 1 := by kernel_rfl
  have c34 : Tryd.prog.cellsOf 34 = 1 := by kernel_rfl
  have c59 : Tryd.prog.cellsOf 59 = 1 := by kernel_rfl
  rw [c61] at hlen
  have h0 := hf 0 _ rfl
  have h1 := hf 1 _ rfl
  have h2 := hf 2 _ rfl
  change DataW.trod (funcToken Tryd.prog) Tryd.prog W 0 (fun _ => true) true n 3 ((c.drop 0).take (Tryd.prog.cellsOf 3)) = ys[0]? at h0
  change DataW.trod (funcToken Tryd.prog) Tryd.prog W 0 (fun _ => true) true n 34 ((c.drop 1).take (Tryd.prog.cellsOf 34)) = ys[1]? at h1
  change DataW.trod (funcToken Tryd.prog) Tryd.prog W 0 (fun _ => true) true n 59 ((c.drop 2).take (Tryd.prog.cellsOf 59)) = ys[2]? at h2
  rw [c3] at h0
  rw [c34] at h1
  rw [c59] at h2
  match c, hlen with
  | [x0, x1, x2], _ =>
    match ys, hl with
    | [y0, y1, y2], _ =>
      rw [hx] at hy
      simp only [List.map_cons, List.map_nil, DataW.agg.injEq, List.cons.injEq, and_true] at hy
      obtain ⟨e0, e1, e2⟩ := hy
      have h0' : DataW.trod (funcToken Tryd.prog) Tryd.prog W 0 (fun _ => true) true n 3 [x0] = some y0 := h0
      have h1' : DataW.trod (funcToken Tryd.prog) Tryd.prog W 0 (fun _ => true) true n 34 [x1] = some y1 := h1
      have h2' : DataW.trod (funcToken Tryd.prog) Tryd.prog W 0 (fun _ => true) true n 59 [x2] = some y2 := h2
      obtain ⟨n0, k0, z0, _⟩ := DataW.trod_int Tryd.underlying3 h0'
      obtain ⟨n2, k2, z2, _⟩ := DataW.trod_int Tryd.underlying59 h2'
      rw [z0] at e0
      rw [z2] at e2
      simp only [DataW.lit.injEq, Lit.int.injEq, true_and] at e0 e2
      subst e0
      subst e2
      have h1'' : DataW.trod (funcToken Tryd.prog) Tryd.prog W 0 (fun _ => true) true n 34 [x1] = some (.held (b :: r), y1.2) := by rw [h1', ← e1]
      have := func_of_trod (f0 := f0) Tryd.underlying34 hone h1''
      simp only [List.cons.injEq, and_true] at k0 k2
      rw [this, k0, k2]

theorem rules_of {W : World} (h : laidMetH Tryd.prog L W) : ∃ cs : Array Value, W.var? Tryd.prog "doorkeeper/reqline.rules" = some cs ∧
    (cs.toList.drop 0).take 3 = [.int .i64 0, .func (.func 167) #[] #[], .int .i64 400] ∧ (cs.toList.drop 3).take 3 = [.int .i64 1, .func (.func 168) #[] #[], .int .i64 400] ∧
    (cs.toList.drop 6).take 3 = [.int .i64 2, .func (.func 171) #[] #[], .int .i64 400] ∧ (cs.toList.drop 9).take 3 = [.int .i64 2, .func (.func 172) #[] #[], .int .i64 505] := by
  obtain ⟨g, t, cs, fuel, p, hg, ht, hvar, htr⟩ := h.funcs (n := "doorkeeper/reqline.rules") (d := RULESD) (by simp [L, Rows.reqlineKindsRow, Rows.laid_doorkeeper_reqline_rules, RULESD])
  obtain rfl := Option.some.inj (gRules.symm.trans hg)
  obtain rfl := Option.some.inj (tRules.symm.trans ht)
  have c61 : Tryd.prog.cellsOf 61 = 3 := by kernel_rfl
  obtain ⟨xs, m, _, ex, hlen, hl, hel⟩ := DataW.trod_array Tryd.underlying62 htr
  rw [c61] at hel
  have h0 := hel 0 (by omega)
  have h1 := hel 1 (by omega)
  have h2 := hel 2 (by omega)
  have h3 := hel 3 (by omega)
  match xs, hl with
  | [x0, x1, x2, x3], _ =>
    have ex1 := congrArg Prod.fst ex
    have ex2 : [x0.1, x1.1, x2.1, x3.1] = [
      .agg [.lit (.int .i64 0), .held [100, 111, 111, 114, 107, 101, 101, 112, 101, 114, 47, 111, 99, 116, 101, 116, 46, 73, 115, 84, 111, 107, 101, 110], .lit (.int .i64 400)],
      .agg [.lit (.int .i64 1), .held [100, 111, 111, 114, 107, 101, 101, 112, 101, 114, 47, 114, 101, 113, 108, 105, 110, 101, 46, 114, 117, 108, 101, 115, 36, 49], .lit (.int .i64 400)],
      .agg [.lit (.int .i64 2), .held [100, 111, 111, 114, 107, 101, 101, 112, 101, 114, 47, 114, 101, 113, 108, 105, 110, 101, 46, 118, 101, 114, 115, 105, 111, 110], .lit (.int .i64 400)],
      .agg [.lit (.int .i64 2), .held [100, 111, 111, 114, 107, 101, 101, 112, 101, 114, 47, 114, 101, 113, 108, 105, 110, 101, 46, 115, 117, 112, 112, 111, 114, 116, 101, 100], .lit (.int .i64 505)]] := by
      simp only [List.map_cons, List.map_nil] at ex1
      exact (DataW.agg.inj ex1).symm
    simp only [List.cons.injEq, and_true] at ex2
    obtain ⟨e0, e1, e2, e3⟩ := ex2
    exact ⟨cs, hvar, row_of (f0 := 167) h0 e0 (by kernel_rfl), row_of (f0 := 168) h1 e1 (by kernel_rfl), row_of (f0 := 171) h2 e2 (by kernel_rfl), row_of (f0 := 172) h3 e3 (by kernel_rfl)⟩

theorem get_of {l : List Value} {k : Nat} {a b c : Value} (h : (l.drop k).take 3 = [a, b, c]) : l[k]? = some a ∧ l[k + 1]? = some b ∧ l[k + 2]? = some c := by
  have e : ∀ i, i < 3 → l[k + i]? = ([a, b, c] : List Value)[i]? := fun i hi => by
    rw [← h, List.getElem?_take_of_lt hi, List.getElem?_drop]
  exact ⟨e 0 (by omega), e 1 (by omega), e 2 (by omega)⟩
theorem most_of {W : World} (h : W.ShapedOpen Tryd.prog) : ∃ m : Int, W.cell? ⟨3, 0, none⟩ = some (.int .i64 m) :=
  cell_of_shapedOpen_int (g := 3) (t := 3) (zero := #[.int .i64 0]) h (of_decide_eq_true (by kernel_rfl)) (by kernel_rfl) rfl (by kernel_rfl) (by kernel_rfl) Tryd.underlying3
theorem glob_of {W : World} (h : laidMetH Tryd.prog L W) (hs : W.ShapedOpen Tryd.prog) : Glob W := by
  refine ⟨err_of h, fun j hj => ?_, fun j hj => ?_, most_of hs⟩
  · obtain ⟨s, hc, he⟩ := others_of h j hj
    rw [hc]
    congr 2
    have hb : ∀ (l : List UInt8), s.data.toList = l → s = ⟨l.toArray⟩ := fun l hl => by cases s; simp at hl; rw [← hl]
    match j, hj with
    | 0, _ => exact hb _ (Option.some.inj he)
    | 1, _ => exact hb _ (Option.some.inj he)
    | 2, _ => exact hb _ (Option.some.inj he)
    | 3, _ => exact hb _ (Option.some.inj he)
    | 4, _ => exact hb _ (Option.some.inj he)
    | 5, _ => exact hb _ (Option.some.inj he)
  · obtain ⟨cs, hv, k0, k1, k2, k3⟩ := rules_of h
    have hcell := World.var?_cell gRules hv j
    have a0 := get_of k0
    have a1 := get_of k1
    have a2 := get_of k2
    have a3 := get_of k3
    have hc : W.cell? ⟨0, j, none⟩ = cs.toList[j]? := by simpa using hcell
    rw [hc]
    match j, hj with
    | 0, _ => exact a0.1
    | 1, _ => exact a0.2.1
    | 2, _ => exact a0.2.2
    | 3, _ => exact a1.1
    | 4, _ => exact a1.2.1
    | 5, _ => exact a1.2.2
    | 6, _ => exact a2.1
    | 7, _ => exact a2.2.1
    | 8, _ => exact a2.2.2
    | 9, _ => exact a3.1
    | 10, _ => exact a3.2.1
    | 11, _ => exact a3.2.2
def LD : List (String × DataW Unit) := L.filter fun x => x.2.handleName?.isNone
/-- a world that meets the condition: the heap of the door's own run, the plain data laid into it. -/
noncomputable def wit (os : Os) : World := (World.doorLaid Tryd.prog 45 os).layVars Tryd.prog LD
theorem wit_os (os : Os) : (wit os).os = os := (World.layVars_os _ _ _).trans rfl
theorem wit_data (os : Os) : laidMet Tryd.prog LD (wit os) := by
  have e1 : (LD.filter fun x => (LD.map (·.1)).contains x.1) = LD := List.filter_eq_self.2 fun x hx => List.contains_iff_mem.2 (List.mem_map.2 ⟨x, hx, rfl⟩)
  have e2 : (LD.filter fun x => !(LD.map (·.1)).contains x.1) = [] := List.filter_eq_nil_iff.2 fun x hx => by rw [List.contains_iff_mem.2 (List.mem_map.2 ⟨x, hx, rfl⟩)]; simp
  exact laidMet_layVars (w0 := World.doorLaid Tryd.prog 45 os) (LD.map (·.1)) [] (by rw [e1]; rfl) (by rw [e1]; kernel_rfl) (by rw [e1]; kernel_rfl) (by rw [e2]; exact LaidIn.none)
theorem wit_met (os : Os) (args : Array Value) : laidMetH Tryd.prog L ((wit os).forCall (fun _ _ => 0) ⟨#[], args, []⟩).memory :=
  laidMetH_of_parts3 (fuel := 8) ((wit_data os).of_heap (by simp [World.memory, World.forCall, Input.heap])) (by kernel_rfl) (by kernel_rfl)

end Go.Proofs.YtiolgglipcijpaaDoor.RLaid
end

section
namespace Go.Proofs.YtiolgglipcijpaaDoor.reqlineKindsR
open Go.ChangeShapes Go.WideShapes Go.ChangeAt Go.RowKit
open Go.ChangeMaps (open_string shut_string)
open Go.Proofs.YtiolgglipcijpaaDoorW.PrintWords
theorem own : ownKnob Tryd.prog.godebug = none := by kernel_rfl
set_option maxRecDepth 100000 in
theorem lifted (os : Os) (started : os.Started) (H : Type) (enc : TypeId × Value → H) :
    ReturnsInHanded {} Tryd.checked os 5 .any (fun w args => (Rows.reqlineKindsSpec.pre enc Tryd.prog Tryd.f5 Rows.reqlineKindsRow.domain false w args ∧ laidMetH Tryd.prog Rows.reqlineKindsRow.laid w) ∧ sizedMet enc Tryd.prog Tryd.f5 (OpenSpec.ofChange Rows.reqlineKindsSpec) false w args)
      (Rows.reqlineKindsSpec.post enc Tryd.prog Tryd.f5 false true false false) := by
  refine RLaid.returnsInHanded_of_change_and_shaped (C := Tryd.checked) (X := fun w _ => laidMetH Tryd.prog Rows.reqlineKindsRow.laid w) (fun _ _ _ hh h => h.of_heap hh) own started (by kernel_rfl) Tryd.func5
    (ChangeSpec.witness_shaped (enc := enc) (C := Tryd.checked) (os := os) (X := fun w _ => laidMetH Tryd.prog Rows.reqlineKindsRow.laid w) false (RLaid.wit os) #[.string ByteArray.empty, .int .i64 0] 8 (RLaid.wit_os os)
      (World.shaped_of_ZipB (by kernel_rfl) (by kernel_rfl)) (by kernel_rfl) (by kernel_rfl) (by kernel_rfl)
      (RLaid.wit_met os _)) ?_
  intro W base args ds gs before hval0 hW hcnd hsz0 hL0 hsh0 _
  have hG := RLaid.glob_of hL0 hsh0
  have hval : ∀ (j : Nat) t v, Tryd.f5.params[j]? = some t → args[j]? = some v → Value.okWide Tryd.prog W .any base t v := hval0
  have hW' := hW
  obtain ⟨p, q, hA0, hV, rfl, hfz, hnd⟩ := hW
  have hA : DataW.TrodAll enc Tryd.prog W 0 (fun _ => true) true Tryd.f5.params.toList args.toList ds p := hA0
  rw [Tryd.params5] at hA hval
  obtain ⟨v0, vs0, d0, ds0, p0, q0, hargs, rfl, rfl, h0, r0⟩ := trodAll_cons hA
  obtain ⟨v1, vs1, d1, ds1, p1, q1, rfl, rfl, rfl, h1, r1⟩ := trodAll_cons r0
  obtain ⟨rfl, rfl, rfl⟩ := trodAll_nil r1
  obtain rfl : args = #[v0, v1] := by cases args; simp_all
  obtain ⟨rfl, rfl⟩ := trodVars_none hV
  obtain ⟨l0, rfl, rfl, rfl, m0⟩ := open_string Tryd.underlying9 (hval 0 9 v0 rfl rfl) h0
  obtain ⟨l1, rfl, rfl, rfl, m1⟩ := open_int Tryd.underlying3 (hval 1 3 v1 rfl rfl) h1
  clear hA0 hval0 hsz0
  obtain ⟨k, h⟩ := QPure.ReqlineKinds l0 m0 l1 m1
  refine (YtiolgglipcijpaaDoor.P.doorkeeperlaw10_ReqlineKinds.calls k l0 l1 true W h hG).mono fun e W' ⟨he, bel⟩ => ?_
  subst he
  exact ⟨_, rfl, _, _, _, [], _, [], hW', trodAll_mk1 (shut_bool Tryd.underlying4 _), (trodAll_cons_mk (shut_string Tryd.underlying9 m0) (trodAll_cons_mk (shut_int Tryd.underlying3 m1) trodAll_mk0)), rfl, bel.frame _, fun h => by cases h⟩
theorem over : Rows.reqlineKindsRow.holds Tryd.pinned (OpenSpec.ofChange Rows.reqlineKindsSpec) :=
  OpenClaim.holds_of_wide 5 Tryd.f5 rfl rfl rfl rfl rfl rfl rfl ⟨rfl, rfl, rfl, rfl, rfl⟩ rfl rfl rfl rfl rfl (by kernel_rfl) Tryd.func5 (by kernel_rfl)
    (of_decide_eq_true (by kernel_rfl)) (by unfold Func.isWrapper; first | (rw [if_pos (by decide +kernel)]; kernel_rfl) | (rw [if_neg (by decide +kernel)]; exact ⟨rfl, rfl⟩))
    (fun os started H enc _ => lifted os started H enc)
theorem card : Rows.ReqlineKindsCardSaid :=
  Claim7.holds_tied_plain_at .later [] [.data, .handle, .widerDeep, .funcs, .pinned] true (true, "f415b36f0811a6a9ced6d804f445cc691c4a63a5c1f9b95cf1af1f7c828e66d2") true over (fun _ h => by cases h) (by kernel_rfl) (fun _ h => by cases h) reqlineKinds_row_tie rfl ⟨rfl, rfl⟩ (by kernel_rfl) rfl
    (fun f fn hf hfn => by
      obtain rfl : f = 5 := Option.some.inj ((show Tryd.prog.funcNamed "doorkeeper/doorkeeperlaw10.ReqlineKinds" = some 5 by kernel_rfl).symm.trans hf) |>.symm
      obtain rfl : fn = Tryd.f5 := (Option.some.inj (Tryd.func5.symm.trans hfn)).symm
      exact ⟨by kernel_rfl, fun j t ht => by
        rw [Tryd.params5] at ht
        have hm : t ∈ [9, 3] := by simpa using Array.mem_of_getElem? ht
        have hall : ([9, 3].all fun u => !Tryd.prog.wantsStandIn u) = true := by kernel_rfl
        exact (show Tryd.prog.wantsStandIn t = false by simpa using List.all_eq_true.1 hall t hm)⟩)
    (by kernel_rfl)
end Go.Proofs.YtiolgglipcijpaaDoor.reqlineKindsR
namespace Go.Proofs.YtiolgglipcijpaaDoor
/-- The statement, under a short name, for the claim. -/
theorem reqlineKinds_holds : Rows.ReqlineKindsCardSaid := reqlineKindsR.card
end Go.Proofs.YtiolgglipcijpaaDoor
end
