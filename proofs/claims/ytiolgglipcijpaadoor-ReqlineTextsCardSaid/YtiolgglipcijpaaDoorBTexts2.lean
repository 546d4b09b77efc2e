/- What the reference of request lines gives. Conditions: none beyond those that each theorem states. -/
import Derived.Test.YtiolgglipcijpaaDoorBTexts0
import Derived.Test.YtiolgglipcijpaaDoorBTexts1

section
namespace Go.Proofs.YtiolgglipcijpaaDoor.P
open Go.RowKit Go.Proofs.YtiolgglipcijpaaDoorW.PrintWords Go.Proofs.YtiolgglipcijpaaDoorW.PrintLast Go.Proofs.YtiolgglipcijpaaDoorW.PrintMore
attribute [local go_sem] max2_int min2_int max_two min_two max_three min_three max_four min_four   -- for this text's walks alone
set_option linter.unusedVariables false
set_option linter.unusedSimpArgs false

/-! ### doorkeeperref02_IsToken: function 32 -/
def doorkeeperref02_IsToken.f (k : Nat) (a0 : ByteArray) : Option (Bool) := if (a0.size : Int) > 0 then ((doorkeeperref02_All.f k a0 2).bind fun t133 => (some t133)) else (some false)
theorem doorkeeperref02_IsToken.mono : ∀ a0 k, LeO (doorkeeperref02_IsToken.f k a0) (doorkeeperref02_IsToken.f (k + 1) a0) := by
  intro a0 k
  unfold doorkeeperref02_IsToken.f
  repeat' first
      | (with_reducible exact doorkeeperref02_All.mono _ _ _)
      | (with_reducible exact LeO.refl _)
      | (with_reducible exact LeO.none _)
      | (with_reducible refine LeO.ite ?_ ?_)
      | (with_reducible refine LeO.bind ?_ (fun _ => ?_))
      | exact doorkeeperref02_All.mono _ _ _
      | exact LeO.none _
      | refine LeO.ite ?_ ?_
      | refine LeO.bind ?_ (fun _ => ?_)
set_option maxHeartbeats 8000000 in
set_option maxRecDepth 100000 in
theorem doorkeeperref02_IsToken.calls (k : Nat) (a0 : ByteArray) (r : Bool) (w : World) (h : doorkeeperref02_IsToken.f k a0 = some r) :
    Calls Tryd.prog 32 #[.string a0] w fun e w' => e = .returned (.bool r) ∧ Drawn0 w w' := by
  have H : (if (a0.size : Int) > 0 then ((doorkeeperref02_All.f k a0 2).bind fun t133 => (some t133)) else (some false)) = some r := h
  clear h
  by_cases c2 : (a0.size : Int) > 0
  · rw [if_pos c2] at H
    have c2b0 : decide (0 < (a0.size : Int)) = true := decide_eq_true c2
    have c2b1 : decide (0 < a0.size) = true := decide_eq_true (by omega)
    clear c2
    replace H := Option.bind_eq_some_iff.mp H
    obtain ⟨t133, A30, H⟩ := H
    replace H : (some t133) = some r := H
    have A3 := Aside0.mk A30
    clear A30
    obtain rfl := Option.some.inj H
    go_enter Tryd.func32, Tryd.ntmps32
    go_wp2_with (first | (go_at_call 57; (with_reducible refine (doorkeeperref02_All.calls k a0 2 t133 _ A3.out).mono ?_); rintro e w' ⟨rfl, ⟨nd, rfl⟩⟩))
    go_ret
    exact ⟨by first | rfl | (simp; done) | (simp [*]; done), by repeat (first | exact Drawn0.refl _ | apply Drawn0.step)⟩
  · rw [if_neg c2] at H
    have c2b0 : decide (0 < (a0.size : Int)) = false := decide_eq_false c2
    have c2b1 : decide (0 < a0.size) = false := decide_eq_false (by omega)
    clear c2
    obtain rfl := Option.some.inj H
    go_enter Tryd.func32, Tryd.ntmps32
    go_wp2
    go_ret
    exact ⟨by first | rfl | (simp; done) | (simp [*]; done), by repeat (first | exact Drawn0.refl _ | apply Drawn0.step)⟩

end Go.Proofs.YtiolgglipcijpaaDoor.P
end

section
namespace Go.Proofs.YtiolgglipcijpaaDoor.P
open Go.RowKit Go.Proofs.YtiolgglipcijpaaDoorW.PrintWords Go.Proofs.YtiolgglipcijpaaDoorW.PrintLast Go.Proofs.YtiolgglipcijpaaDoorW.PrintMore
attribute [local go_sem] max2_int min2_int max_two min_two max_three min_three max_four min_four   -- for this text's walks alone
set_option linter.unusedVariables false
set_option linter.unusedSimpArgs false

/-! ### doorkeeperref10_Parse: function 13 -/
mutual
def doorkeeperref10_Parse.l0 : Nat → ByteArray → List Int → Int → Option (ByteArray × ByteArray × Int × Int × Int)
  | 0, _, _, _ => none
  | k + 1, x0, x5, x6 => if x6 < (x0.size : Int) then (if 0 ≤ x6 then (if (bt x0 x6) = 32 then (if x5.length < 17592186044416 then (doorkeeperref10_Parse.l0 k x0 (x5 ++ [x6]) (wrap64 (x6 + 1))) else (none)) else (doorkeeperref10_Parse.l0 k x0 x5 (wrap64 (x6 + 1)))) else (none)) else (if (x5.length : Int) = 2 then (if 0 < (x5.length : Int) then (if 0 ≤ (rd x5 0) then (if (rd x5 0) ≤ (x0.size : Int) then ((doorkeeperref02_IsToken.f k (x0.extract 0 ((rd x5 0) : Int).toNat)).bind fun t139 => (doorkeeperref10_Parse.j1 k x0 x5 (!t139))) else (none)) else (none)) else (none)) else (doorkeeperref10_Parse.j1 k x0 x5 true))
def doorkeeperref10_Parse.j1 : Nat → ByteArray → List Int → Bool → Option (ByteArray × ByteArray × Int × Int × Int)
  | 0, _, _, _ => none
  | k + 1, x0, x5, x36 => if x36 = true then (some ((⟨#[]⟩ : ByteArray), (⟨#[]⟩ : ByteArray), 0, 400, 0)) else (if 0 < (x5.length : Int) then (if 1 < (x5.length : Int) then (if 0 ≤ (wrap64 ((rd x5 0) + 1)) then (if (wrap64 ((rd x5 0) + 1)) ≤ (rd x5 1) then (if (rd x5 1) ≤ (x0.size : Int) then (if (x0.extract ((wrap64 ((rd x5 0) + 1)) : Int).toNat ((rd x5 1) : Int).toNat).toList = ([] : List UInt8) then (some ((⟨#[]⟩ : ByteArray), (⟨#[]⟩ : ByteArray), 0, 400, wrap64 ((rd x5 0) + 1))) else (doorkeeperref10_Parse.l1 k x0 x5 (x0.extract ((wrap64 ((rd x5 0) + 1)) : Int).toNat ((rd x5 1) : Int).toNat) 0)) else (none)) else (none)) else (none)) else (none)) else (none))
def doorkeeperref10_Parse.l1 : Nat → ByteArray → List Int → ByteArray → Int → Option (ByteArray × ByteArray × Int × Int × Int)
  | 0, _, _, _, _ => none
  | k + 1, x0, x5, x7, x8 => if x8 < (x7.size : Int) then (if 0 ≤ x8 then (if (bt x7 x8) < 33 then (if 0 < (x5.length : Int) then (some ((⟨#[]⟩ : ByteArray), (⟨#[]⟩ : ByteArray), 0, 400, wrap64 ((rd x5 0) + 1))) else (none)) else (if (bt x7 x8) > 126 then (if 0 < (x5.length : Int) then (some ((⟨#[]⟩ : ByteArray), (⟨#[]⟩ : ByteArray), 0, 400, wrap64 ((rd x5 0) + 1))) else (none)) else (doorkeeperref10_Parse.l1 k x0 x5 x7 (wrap64 (x8 + 1))))) else (none)) else (if 1 < (x5.length : Int) then (if 0 ≤ (wrap64 ((rd x5 1) + 1)) then (if (wrap64 ((rd x5 1) + 1)) ≤ (x0.size : Int) then (if ((x0.extract ((wrap64 ((rd x5 1) + 1)) : Int).toNat x0.size).size : Int) = 8 then (if 0 ≤ 5 then (if 5 ≤ ((x0.extract ((wrap64 ((rd x5 1) + 1)) : Int).toNat x0.size).size : Int) then (if ((x0.extract ((wrap64 ((rd x5 1) + 1)) : Int).toNat x0.size).extract 0 5).toList = ([72, 84, 84, 80, 47] : List UInt8) then (if 5 < ((x0.extract ((wrap64 ((rd x5 1) + 1)) : Int).toNat x0.size).size : Int) then ((doorkeeperref02_Class.f k (bt (x0.extract ((wrap64 ((rd x5 1) + 1)) : Int).toNat x0.size) 5) 1).bind fun t146 => (if t146 = true then (if 6 < ((x0.extract ((wrap64 ((rd x5 1) + 1)) : Int).toNat x0.size).size : Int) then (if (bt (x0.extract ((wrap64 ((rd x5 1) + 1)) : Int).toNat x0.size) 6) = 46 then (if 7 < ((x0.extract ((wrap64 ((rd x5 1) + 1)) : Int).toNat x0.size).size : Int) then ((doorkeeperref02_Class.f k (bt (x0.extract ((wrap64 ((rd x5 1) + 1)) : Int).toNat x0.size) 7) 1).bind fun t147 => (doorkeeperref10_Parse.j3 k x0 x5 x7 (x0.extract ((wrap64 ((rd x5 1) + 1)) : Int).toNat x0.size) (!t147))) else (none)) else (doorkeeperref10_Parse.j3 k x0 x5 x7 (x0.extract ((wrap64 ((rd x5 1) + 1)) : Int).toNat x0.size) true)) else (none)) else (doorkeeperref10_Parse.j3 k x0 x5 x7 (x0.extract ((wrap64 ((rd x5 1) + 1)) : Int).toNat x0.size) true))) else (none)) else (doorkeeperref10_Parse.j3 k x0 x5 x7 (x0.extract ((wrap64 ((rd x5 1) + 1)) : Int).toNat x0.size) true)) else (none)) else (none)) else (doorkeeperref10_Parse.j3 k x0 x5 x7 (x0.extract ((wrap64 ((rd x5 1) + 1)) : Int).toNat x0.size) true)) else (none)) else (none)) else (none))
def doorkeeperref10_Parse.j3 : Nat → ByteArray → List Int → ByteArray → ByteArray → Bool → Option (ByteArray × ByteArray × Int × Int × Int)
  | 0, _, _, _, _, _ => none
  | k + 1, x0, x5, x7, x9, x105 => if x105 = true then (if 1 < (x5.length : Int) then (some ((⟨#[]⟩ : ByteArray), (⟨#[]⟩ : ByteArray), 0, 400, wrap64 ((rd x5 1) + 1))) else (none)) else (if x9.toList = ([72, 84, 84, 80, 47, 49, 46, 48] : List UInt8) then (doorkeeperref10_Parse.j4 k x0 x5 x7 x9 false) else (doorkeeperref10_Parse.j4 k x0 x5 x7 x9 (x9.toList != ([72, 84, 84, 80, 47, 49, 46, 49] : List UInt8))))
def doorkeeperref10_Parse.j4 : Nat → ByteArray → List Int → ByteArray → ByteArray → Bool → Option (ByteArray × ByteArray × Int × Int × Int)
  | 0, _, _, _, _, _ => none
  | k + 1, x0, x5, x7, x9, x116 => if x116 = true then (if 1 < (x5.length : Int) then (some ((⟨#[]⟩ : ByteArray), (⟨#[]⟩ : ByteArray), 0, 505, wrap64 ((rd x5 1) + 1))) else (none)) else (if 0 < (x5.length : Int) then (if 0 ≤ (rd x5 0) then (if (rd x5 0) ≤ (x0.size : Int) then (if x9.toList = ([72, 84, 84, 80, 47, 49, 46, 49] : List UInt8) then (some (x0.extract 0 ((rd x5 0) : Int).toNat, x7, 1, 0, 0)) else (some (x0.extract 0 ((rd x5 0) : Int).toNat, x7, 0, 0, 0))) else (none)) else (none)) else (none))
end
def doorkeeperref10_Parse.f (k : Nat) (a0 : ByteArray) : Option (ByteArray × ByteArray × Int × Int × Int) := doorkeeperref10_Parse.l0 k a0 ([] : List Int) 0
theorem doorkeeperref10_Parse.mono_l : ∀ k, (∀ y0 y1 y2, LeO (doorkeeperref10_Parse.l0 k y0 y1 y2) (doorkeeperref10_Parse.l0 (k + 1) y0 y1 y2)) ∧ (∀ y0 y1 y2, LeO (doorkeeperref10_Parse.j1 k y0 y1 y2) (doorkeeperref10_Parse.j1 (k + 1) y0 y1 y2)) ∧ (∀ y0 y1 y2 y3, LeO (doorkeeperref10_Parse.l1 k y0 y1 y2 y3) (doorkeeperref10_Parse.l1 (k + 1) y0 y1 y2 y3)) ∧ (∀ y0 y1 y2 y3 y4, LeO (doorkeeperref10_Parse.j3 k y0 y1 y2 y3 y4) (doorkeeperref10_Parse.j3 (k + 1) y0 y1 y2 y3 y4)) ∧ (∀ y0 y1 y2 y3 y4, LeO (doorkeeperref10_Parse.j4 k y0 y1 y2 y3 y4) (doorkeeperref10_Parse.j4 (k + 1) y0 y1 y2 y3 y4))
  | 0 => ⟨fun _ _ _ r h => by simp [doorkeeperref10_Parse.l0] at h, fun _ _ _ r h => by simp [doorkeeperref10_Parse.j1] at h, fun _ _ _ _ r h => by simp [doorkeeperref10_Parse.l1] at h, fun _ _ _ _ _ r h => by simp [doorkeeperref10_Parse.j3] at h, fun _ _ _ _ _ r h => by simp [doorkeeperref10_Parse.j4] at h⟩
  | k + 1 => by
    obtain ⟨ih0, ih1, ih2, ih3, ih4⟩ := doorkeeperref10_Parse.mono_l k
    refine ⟨?_, ?_, ?_, ?_, ?_⟩
    · intro y0 y1 y2
      unfold doorkeeperref10_Parse.l0
      repeat' first
      | (with_reducible exact ih0 _ _ _)
      | (with_reducible exact ih1 _ _ _)
      | (with_reducible exact ih2 _ _ _ _)
      | (with_reducible exact ih3 _ _ _ _ _)
      | (with_reducible exact ih4 _ _ _ _ _)
      | (with_reducible exact doorkeeperref02_Class.mono _ _ _)
      | (with_reducible exact doorkeeperref02_IsToken.mono _ _)
      | (with_reducible exact LeO.refl _)
      | (with_reducible exact LeO.none _)
      | (with_reducible refine LeO.ite ?_ ?_)
      | (with_reducible refine LeO.bind ?_ (fun _ => ?_))
      | exact ih0 _ _ _
      | exact ih1 _ _ _
      | exact ih2 _ _ _ _
      | exact ih3 _ _ _ _ _
      | exact ih4 _ _ _ _ _
      | exact doorkeeperref02_Class.mono _ _ _
      | exact doorkeeperref02_IsToken.mono _ _
      | exact LeO.none _
      | refine LeO.ite ?_ ?_
      | refine LeO.bind ?_ (fun _ => ?_)
    · intro y0 y1 y2
      unfold doorkeeperref10_Parse.j1
      repeat' first
      | (with_reducible exact ih0 _ _ _)
      | (with_reducible exact ih1 _ _ _)
      | (with_reducible exact ih2 _ _ _ _)
      | (with_reducible exact ih3 _ _ _ _ _)
      | (with_reducible exact ih4 _ _ _ _ _)
      | (with_reducible exact doorkeeperref02_Class.mono _ _ _)
      | (with_reducible exact doorkeeperref02_IsToken.mono _ _)
      | (with_reducible exact LeO.refl _)
      | (with_reducible exact LeO.none _)
      | (with_reducible refine LeO.ite ?_ ?_)
      | (with_reducible refine LeO.bind ?_ (fun _ => ?_))
      | exact ih0 _ _ _
      | exact ih1 _ _ _
      | exact ih2 _ _ _ _
      | exact ih3 _ _ _ _ _
      | exact ih4 _ _ _ _ _
      | exact doorkeeperref02_Class.mono _ _ _
      | exact doorkeeperref02_IsToken.mono _ _
      | exact LeO.none _
      | refine LeO.ite ?_ ?_
      | refine LeO.bind ?_ (fun _ => ?_)
    · intro y0 y1 y2 y3
      unfold doorkeeperref10_Parse.l1
      repeat' first
      | (with_reducible exact ih0 _ _ _)
      | (with_reducible exact ih1 _ _ _)
      | (with_reducible exact ih2 _ _ _ _)
      | (with_reducible exact ih3 _ _ _ _ _)
      | (with_reducible exact ih4 _ _ _ _ _)
      | (with_reducible exact doorkeeperref02_Class.mono _ _ _)
      | (with_reducible exact doorkeeperref02_IsToken.mono _ _)
      | (with_reducible exact LeO.refl _)
      | (with_reducible exact LeO.none _)
      | (with_reducible refine LeO.ite ?_ ?_)
      | (with_reducible refine LeO.bind ?_ (fun _ => ?_))
      | exact ih0 _ _ _
      | exact ih1 _ _ _
      | exact ih2 _ _ _ _
      | exact ih3 _ _ _ _ _
      | exact ih4 _ _ _ _ _
      | exact doorkeeperref02_Class.mono _ _ _
      | exact doorkeeperref02_IsToken.mono _ _
      | exact LeO.none _
      | refine LeO.ite ?_ ?_
      | refine LeO.bind ?_ (fun _ => ?_)
    · intro y0 y1 y2 y3 y4
      unfold doorkeeperref10_Parse.j3
      repeat' first
      | (with_reducible exact ih0 _ _ _)
      | (with_reducible exact ih1 _ _ _)
      | (with_reducible exact ih2 _ _ _ _)
      | (with_reducible exact ih3 _ _ _ _ _)
      | (with_reducible exact ih4 _ _ _ _ _)
      | (with_reducible exact doorkeeperref02_Class.mono _ _ _)
      | (with_reducible exact doorkeeperref02_IsToken.mono _ _)
      | (with_reducible exact LeO.refl _)
      | (with_reducible exact LeO.none _)
      | (with_reducible refine LeO.ite ?_ ?_)
      | (with_reducible refine LeO.bind ?_ (fun _ => ?_))
      | exact ih0 _ _ _
      | exact ih1 _ _ _
      | exact ih2 _ _ _ _
      | exact ih3 _ _ _ _ _
      | exact ih4 _ _ _ _ _
      | exact doorkeeperref02_Class.mono _ _ _
      | exact doorkeeperref02_IsToken.mono _ _
      | exact LeO.none _
      | refine LeO.ite ?_ ?_
      | refine LeO.bind ?_ (fun _ => ?_)
    · intro y0 y1 y2 y3 y4
      unfold doorkeeperref10_Parse.j4
      repeat' first
      | (with_reducible exact ih0 _ _ _)
      | (with_reducible exact ih1 _ _ _)
      | (with_reducible exact ih2 _ _ _ _)
      | (with_reducible exact ih3 _ _ _ _ _)
      | (with_reducible exact ih4 _ _ _ _ _)
      | (with_reducible exact doorkeeperref02_Class.mono _ _ _)
      | (with_reducible exact doorkeeperref02_IsToken.mono _ _)
      | (with_reducible exact LeO.refl _)
      | (with_reducible exact LeO.none _)
      | (with_reducible refine LeO.ite ?_ ?_)
      | (with_reducible refine LeO.bind ?_ (fun _ => ?_))
      | exact ih0 _ _ _
      | exact ih1 _ _ _
      | exact ih2 _ _ _ _
      | exact ih3 _ _ _ _ _
      | exact ih4 _ _ _ _ _
      | exact doorkeeperref02_Class.mono _ _ _
      | exact doorkeeperref02_IsToken.mono _ _
      | exact LeO.none _
      | refine LeO.ite ?_ ?_
      | refine LeO.bind ?_ (fun _ => ?_)
theorem doorkeeperref10_Parse.mono : ∀ a0 k, LeO (doorkeeperref10_Parse.f k a0) (doorkeeperref10_Parse.f (k + 1) a0) := by
  intro a0 k
  obtain ⟨ih0, ih1, ih2, ih3, ih4⟩ := doorkeeperref10_Parse.mono_l k
  unfold doorkeeperref10_Parse.f
  repeat' first
      | (with_reducible exact ih0 _ _ _)
      | (with_reducible exact ih1 _ _ _)
      | (with_reducible exact ih2 _ _ _ _)
      | (with_reducible exact ih3 _ _ _ _ _)
      | (with_reducible exact ih4 _ _ _ _ _)
      | (with_reducible exact doorkeeperref02_Class.mono _ _ _)
      | (with_reducible exact doorkeeperref02_IsToken.mono _ _)
      | (with_reducible exact LeO.refl _)
      | (with_reducible exact LeO.none _)
      | (with_reducible refine LeO.ite ?_ ?_)
      | (with_reducible refine LeO.bind ?_ (fun _ => ?_))
      | exact ih0 _ _ _
      | exact ih1 _ _ _
      | exact ih2 _ _ _ _
      | exact ih3 _ _ _ _ _
      | exact ih4 _ _ _ _ _
      | exact doorkeeperref02_Class.mono _ _ _
      | exact doorkeeperref02_IsToken.mono _ _
      | exact LeO.none _
      | refine LeO.ite ?_ ?_
      | refine LeO.bind ?_ (fun _ => ?_)
def doorkeeperref10_Parse.T9 : Bool × List (List Nat × List Nat) := (true, [([], []), ([], []), ([1], [1]), ([2], [2]), ([3], [3]), ([], []), ([5], [5]), ([6], [6]), ([0, 4, 7], [0, 4, 7]), ([8, 0, 1, 2, 3, 4, 5, 6, 7, 8], [8])])
def doorkeeperref10_Parse.B9 : List Nat := [0, 0, 2, 6, 14, 0, 32, 96, 255, 511]
theorem doorkeeperref10_Parse.tab9 : rtab .any (opsOf Tryd.f13 9) = doorkeeperref10_Parse.T9 := by kernel_rfl
theorem doorkeeperref10_Parse.bits9 : waitsOk doorkeeperref10_Parse.T9.2 doorkeeperref10_Parse.B9 = true := by kernel_rfl
def doorkeeperref10_Parse.T11 : Bool × List (List Nat × List Nat) := (true, [([], []), ([], []), ([1], [1]), ([2], [2]), ([3], [3]), ([0, 0], [0]), ([5, 0, 5], []), ([4, 6, 0, 1, 2, 3, 4, 5, 6], [4])])
def doorkeeperref10_Parse.B11 : List Nat := [0, 0, 2, 6, 14, 1, 33, 127]
theorem doorkeeperref10_Parse.tab11 : rtab .any (opsOf Tryd.f13 11) = doorkeeperref10_Parse.T11 := by kernel_rfl
theorem doorkeeperref10_Parse.bits11 : waitsOk doorkeeperref10_Parse.T11.2 doorkeeperref10_Parse.B11 = true := by kernel_rfl
def doorkeeperref10_Parse.T16 : Bool × List (List Nat × List Nat) := (true, [([], []), ([], []), ([1], [1]), ([2], [2]), ([3], [3]), ([0, 0], [0]), ([5, 0, 5], []), ([4, 6, 0, 1, 2, 3, 4, 5, 6], [4])])
def doorkeeperref10_Parse.B16 : List Nat := [0, 0, 2, 6, 14, 1, 33, 127]
theorem doorkeeperref10_Parse.tab16 : rtab .any (opsOf Tryd.f13 16) = doorkeeperref10_Parse.T16 := by kernel_rfl
theorem doorkeeperref10_Parse.bits16 : waitsOk doorkeeperref10_Parse.T16.2 doorkeeperref10_Parse.B16 = true := by kernel_rfl
def doorkeeperref10_Parse.T19 : Bool × List (List Nat × List Nat) := (true, [([], []), ([], []), ([1], [1]), ([2], [2]), ([3], [3]), ([0, 0], [0]), ([5, 0, 5], []), ([4, 6, 0, 1, 2, 3, 4, 5, 6], [4])])
def doorkeeperref10_Parse.B19 : List Nat := [0, 0, 2, 6, 14, 1, 33, 127]
theorem doorkeeperref10_Parse.tab19 : rtab .any (opsOf Tryd.f13 19) = doorkeeperref10_Parse.T19 := by kernel_rfl
theorem doorkeeperref10_Parse.bits19 : waitsOk doorkeeperref10_Parse.T19.2 doorkeeperref10_Parse.B19 = true := by kernel_rfl
def doorkeeperref10_Parse.T21 : Bool × List (List Nat × List Nat) := (true, [([], []), ([], []), ([1], [1]), ([2], [2]), ([3], [3]), ([0, 0], [0]), ([5, 0, 5], []), ([4, 6, 0, 1, 2, 3, 4, 5, 6], [4])])
def doorkeeperref10_Parse.B21 : List Nat := [0, 0, 2, 6, 14, 1, 33, 127]
theorem doorkeeperref10_Parse.tab21 : rtab .any (opsOf Tryd.f13 21) = doorkeeperref10_Parse.T21 := by kernel_rfl
theorem doorkeeperref10_Parse.bits21 : waitsOk doorkeeperref10_Parse.T21.2 doorkeeperref10_Parse.B21 = true := by kernel_rfl

end Go.Proofs.YtiolgglipcijpaaDoor.P
end

section
namespace Go.Proofs.YtiolgglipcijpaaDoor.QRef
open Go Go.RowKit Go.Proofs.YtiolgglipcijpaaDoorW.PrintWords Go.Proofs.YtiolgglipcijpaaDoor.PB Go.Proofs.YtiolgglipcijpaaDoor.P Go.Proofs.YtiolgglipcijpaaDoor.LSpec Go.Proofs.YtiolgglipcijpaaDoor.RSpec
open Go.Proofs.YtiolgglipcijpaaDoor.ROct (tokB visB isTok isVis)

theorem wrap_succ {i n : Nat} (h : i < n) (hn : n ≤ 9223372036854775807) : wrap64 ((i : Int) + 1) = ((i + 1 : Nat) : Int) := by
  rw [wrap64_ok (by omega) (by omega)]; omega
theorem wrap_pred {i : Nat} (h : 0 < i) (hn : i ≤ 9223372036854775807) : wrap64 ((i : Int) - 1) = ((i - 1 : Nat) : Int) := by
  rw [wrap64_ok (by omega) (by omega)]; omega
theorem rd_nat (l : List ByteArray) (i : Nat) (h : i < l.length) : rdOf ByteArray.empty l (i : Int) = l[i] := by
  rw [rdOf, Int.toNat_natCast, List.getD_eq_getElem?_getD, List.getElem?_eq_getElem h]; rfl
theorem bt_nat (l : List UInt8) (i : Nat) (h : i < l.length) : bt (ofL l) (i : Int) = (l[i].toNat : Int) := by
  rw [bt_ofL, Int.toNat_natCast, List.getElem?_eq_getElem h]; rfl
theorem drop_cons {α : Type} (l : List α) (i : Nat) (h : i < l.length) : l.drop i = l[i] :: l.drop (i + 1) := List.drop_eq_getElem_cons h

/-! tokens -/
theorem class2_fin : ∀ n : Fin 256, doorkeeperref02_Class.f 60 (n.val : Int) 2 = some (tokB (UInt8.ofNat n.val)) := by decide +kernel
theorem class2_ev (c : UInt8) : Ev (fun k => doorkeeperref02_Class.f k (c.toNat : Int) 2) (tokB c) := by
  have := class2_fin ⟨c.toNat, c.toNat_lt⟩
  refine Ev.of (k := 60) (fun k => doorkeeperref02_Class.mono _ _ k) ?_
  simpa using this
theorem all_l0 (p : UInt8 → Bool) (cl : Int) (hp : ∀ c : UInt8, Ev (fun k => doorkeeperref02_Class.f k (c.toNat : Int) cl) (p c)) (l : List UInt8) (hn : l.length ≤ 9223372036854775807) : ∀ (d i : Nat), l.length - i = d → i ≤ l.length →
    Ev (fun k => doorkeeperref02_All.l0 k (ofL l) cl (i : Int)) ((l.drop i).all p) := by
  intro d
  induction d with
  | zero =>
    intro i hd hi
    obtain rfl : i = l.length := by omega
    refine Ev.step (f := fun _ => some true) (fun k => ?_) (by rw [List.drop_length]; exact Ev.now _)
    simp only [doorkeeperref02_All.l0]
    rw [if_neg (by rw [size_ofL]; omega)]
  | succ d ih =>
    intro i hd hi
    have h1 : i < l.length := by omega
    refine Ev.step (f := fun k => (doorkeeperref02_Class.f k (l[i].toNat : Int) cl).bind fun t => if t = true then doorkeeperref02_All.l0 k (ofL l) cl ((i + 1 : Nat) : Int) else some false) (fun k => ?_) ?_
    · simp only [doorkeeperref02_All.l0]
      rw [if_pos (by rw [size_ofL]; omega), if_pos (by omega), bt_nat _ _ h1, wrap_succ h1 hn]
    · refine Ev.bind (hp l[i]) ?_
      rw [drop_cons l i h1, List.all_cons]
      cases p l[i] with
      | true => simpa using ih (i + 1) (by omega) (by omega)
      | false => simpa using Ev.now (α := Bool) false
theorem all_ev (p : UInt8 → Bool) (cl : Int) (hp : ∀ c : UInt8, Ev (fun k => doorkeeperref02_Class.f k (c.toNat : Int) cl) (p c)) (s : ByteArray) (hn : s.size ≤ 9223372036854775807) : Ev (fun k => doorkeeperref02_All.f k s cl) ((toL s).all p) := by
  have := all_l0 p cl hp (toL s) (by rw [toL_length]; exact hn) _ 0 rfl (Nat.zero_le _)
  rw [ofL_toL] at this
  simpa [doorkeeperref02_All.f] using this
theorem isToken_ev (s : ByteArray) (hn : s.size ≤ 9223372036854775807) : Ev (fun k => doorkeeperref02_IsToken.f k s) (isTok s) := by
  by_cases h : toL s = []
  · have h0 : s.size = 0 := by rw [← toL_length, h]; rfl
    refine Ev.congr (f := fun _ => some false) (fun k => ?_) (by simpa [isTok, h] using Ev.now (α := Bool) false)
    unfold doorkeeperref02_IsToken.f
    rw [if_neg (by omega)]
  · have h0 : 0 < s.size := by rw [← toL_length]; exact List.length_pos_iff.2 h
    refine Ev.congr (f := fun k => (doorkeeperref02_All.f k s 2).bind fun t => some t) (fun k => ?_) ?_
    · unfold doorkeeperref02_IsToken.f
      rw [if_pos (by omega)]
    · have : isTok s = (toL s).all tokB := by simp [isTok, h]
      rw [this]
      exact Ev.bind (all_ev tokB 2 class2_ev s hn) (Ev.now _)


theorem class1_fin : ∀ n : Fin 256, doorkeeperref02_Class.f 60 (n.val : Int) 1 = some (digB (UInt8.ofNat n.val)) := by decide +kernel
theorem class1_ev (c : UInt8) : Ev (fun k => doorkeeperref02_Class.f k (c.toNat : Int) 1) (digB c) := by
  have := class1_fin ⟨c.toNat, c.toNat_lt⟩
  refine Ev.of (k := 60) (fun k => doorkeeperref02_Class.mono _ _ k) ?_
  simpa using this

/-- where the spaces are. -/
def pos : Nat → List UInt8 → List Int
  | _, [] => []
  | i, c :: r => if c = 32 then (i : Int) :: pos (i + 1) r else pos (i + 1) r
def psum : Nat → List (List UInt8) → List Int
  | _, [] => []
  | _, [_] => []
  | i, p :: q :: r => ((i + p.length : Nat) : Int) :: psum (i + p.length + 1) (q :: r)
theorem psum_shift (i : Nat) (x : UInt8) (p : List UInt8) (ps : List (List UInt8)) : psum i ((x :: p) :: ps) = psum (i + 1) (p :: ps) := by
  cases ps with
  | nil => rfl
  | cons q r =>
    simp only [psum, List.length_cons]
    have e1 : i + (p.length + 1) = i + 1 + p.length := by omega
    rw [e1]
theorem pos_split : ∀ (l : List UInt8) (i : Nat), pos i l = psum i (splitL 32 l)
  | [], i => rfl
  | x :: r, i => by
    have ih := pos_split r (i + 1)
    simp only [pos, splitL]
    have hne := splitL_ne 32 r
    by_cases e : x = 32
    · rw [if_pos e, if_pos e, ih]
      cases hs : splitL 32 r with
      | nil => exact absurd hs hne
      | cons p ps => simp [psum]
    · rw [if_neg e, if_neg e, ih]
      cases hs : splitL 32 r with
      | nil => exact absurd hs hne
      | cons p ps => exact (psum_shift i x p ps).symm
theorem psum_length : ∀ (ps : List (List UInt8)) (i : Nat), ps ≠ [] → (psum i ps).length + 1 = ps.length
  | [], _, h => absurd rfl h
  | [_], _, _ => rfl
  | p :: q :: r, i, _ => by
    have := psum_length (q :: r) (i + p.length + 1) (by simp)
    simp only [psum, List.length_cons] at this ⊢
    omega
theorem pos_length : ∀ (l : List UInt8) (i : Nat), (pos i l).length ≤ l.length
  | [], _ => Nat.le_refl _
  | x :: r, i => by
    have := pos_length r (i + 1)
    simp only [pos]
    split <;> simp <;> omega

abbrev ROut := ByteArray × ByteArray × Int × Int × Int
theorem l0_ev (l : List UInt8) (hn : l.length ≤ 100000) (R : ROut) : ∀ (d i : Nat) (acc : List Int), l.length - i = d → i ≤ l.length → acc.length ≤ i →
    Ev (fun k => doorkeeperref10_Parse.l0 k (ofL l) (acc ++ pos i (l.drop i)) (l.length : Int)) R → Ev (fun k => doorkeeperref10_Parse.l0 k (ofL l) acc (i : Int)) R := by
  intro d
  induction d with
  | zero =>
    intro i acc hd hi _ h
    obtain rfl : i = l.length := by omega
    rw [List.drop_length] at h
    simpa [pos] using h
  | succ d ih =>
    intro i acc hd hi ha h
    have h1 : i < l.length := by omega
    rw [drop_cons l i h1] at h
    simp only [pos] at h
    by_cases e : l[i] = 32
    · rw [if_pos e] at h
      have hb : ((l[i]).toNat : Int) = 32 := by rw [e]; rfl
      refine Ev.step (f := fun k => doorkeeperref10_Parse.l0 k (ofL l) (acc ++ [(i : Int)]) ((i + 1 : Nat) : Int)) (fun k => ?_) (ih (i + 1) (acc ++ [(i : Int)]) (by omega) (by omega) (by simp; omega) (by rw [List.append_assoc]; exact h))
      simp only [doorkeeperref10_Parse.l0]
      rw [if_pos (by rw [size_ofL]; omega), if_pos (by omega), bt_nat _ _ h1, if_pos hb, if_pos (by omega), wrap_succ h1 (by omega)]
    · rw [if_neg e] at h
      have hb : ¬ ((l[i]).toNat : Int) = 32 := fun hh => e ((u8_eq_nat l[i] 32 (by omega)).1 hh)
      refine Ev.step (f := fun k => doorkeeperref10_Parse.l0 k (ofL l) acc ((i + 1 : Nat) : Int)) (fun k => ?_) (ih (i + 1) acc (by omega) (by omega) (by omega) h)
      simp only [doorkeeperref10_Parse.l0]
      rw [if_pos (by rw [size_ofL]; omega), if_pos (by omega), bt_nat _ _ h1, if_neg hb, wrap_succ h1 (by omega)]

def badR (status at_ : Nat) : ROut := (⟨#[]⟩, ⟨#[]⟩, 0, (status : Int), (at_ : Int))
/-- the same line by the reference: the line, the status, the offset. -/
def lineR (m t v : List UInt8) : ROut :=
  if isTok (ofL m) = false then badR 400 0
  else if isVis (ofL t) = false then badR 400 (m.length + 1)
  else if verL v = false then badR 400 (m.length + t.length + 2)
  else if supL v = false then badR 505 (m.length + t.length + 2)
  else (ofL m, ofL t, (if v == [72, 84, 84, 80, 47, 49, 46, 49] then 1 else 0), 0, 0)
def parseR (l : List UInt8) : ROut := match splitL 32 l with
  | [m, t, v] => lineR m t v
  | _ => badR 400 0

/-- what the last part begins with. -/
theorem part0 (m t v : List UInt8) : (ofL (m ++ 32 :: (t ++ 32 :: v))).extract 0 m.length = ofL m := by
  rw [extract_ofL]; simp
theorem part1 (m t v : List UInt8) : (ofL (m ++ 32 :: (t ++ 32 :: v))).extract (m.length + 1) (m.length + 1 + t.length) = ofL t := by
  rw [extract_ofL]
  have e1 : (m ++ 32 :: (t ++ 32 :: v)).drop (m.length + 1) = t ++ 32 :: v := by
    rw [← List.drop_drop]; simp
  have e2 : m.length + 1 + t.length - (m.length + 1) = t.length := by omega
  rw [e1, e2]; simp
theorem part2 (m t v : List UInt8) : (ofL (m ++ 32 :: (t ++ 32 :: v))).extract (m.length + 1 + t.length + 1) (m ++ 32 :: (t ++ 32 :: v)).length = ofL v := by
  rw [extract_ofL]
  have e1 : (m ++ 32 :: (t ++ 32 :: v)).drop (m.length + 1 + t.length + 1) = v := by
    have e : m.length + 1 + t.length + 1 = m.length + (1 + (t.length + 1)) := by omega
    rw [e, ← List.drop_drop, List.drop_left, ← List.drop_drop]
    simp only [List.drop_succ_cons, List.drop_zero]
    rw [← List.drop_drop, List.drop_left]
    rfl
  rw [e1]
  rw [List.take_of_length_le (by simp; omega)]

theorem j4_ev (l m t v : List UInt8) (x5 : List Int) (hx : x5 = [(m.length : Int), ((m.length + 1 + t.length : Nat) : Int)]) (hl : l = m ++ 32 :: (t ++ 32 :: v)) (hn : l.length ≤ 100000) (hs : supL v = true) :
    Ev (fun k => doorkeeperref10_Parse.j4 k (ofL l) x5 (ofL t) (ofL v) false) (ofL m, ofL t, (if v == [72, 84, 84, 80, 47, 49, 46, 49] then 1 else 0), 0, 0) := by
  subst hx
  subst hl
  simp only [List.length_append, List.length_cons] at hn
  refine Ev.step (f := fun _ => some _) (fun k => ?_) (Ev.now _)
  simp only [doorkeeperref10_Parse.j4]
  have r0 : rd [(m.length : Int), ((m.length + 1 + t.length : Nat) : Int)] 0 = (m.length : Int) := rfl
  rw [if_neg (by simp), if_pos (by simp), r0, if_pos (by omega), if_pos (by rw [size_ofL]; simp; omega), Int.toNat_natCast, part0, toList_ofL]
  by_cases h : v = [72, 84, 84, 80, 47, 49, 46, 49]
  · rw [if_pos h, if_pos (by simpa using h)]
  · rw [if_neg h, if_neg (by simpa using h)]
theorem j3_ev (l m t v : List UInt8) (x5 : List Int) (hx : x5 = [(m.length : Int), ((m.length + 1 + t.length : Nat) : Int)]) (hl : l = m ++ 32 :: (t ++ 32 :: v)) (hn : l.length ≤ 100000) (b : Bool) (hb : b = !verL v) :
    Ev (fun k => doorkeeperref10_Parse.j3 k (ofL l) x5 (ofL t) (ofL v) b) (if verL v = false then badR 400 (m.length + t.length + 2) else if supL v = false then badR 505 (m.length + t.length + 2) else (ofL m, ofL t, (if v == [72, 84, 84, 80, 47, 49, 46, 49] then 1 else 0), 0, 0)) := by
  have hn2 : m.length + t.length + v.length + 2 ≤ 100000 := by rw [hl] at hn; simp at hn; omega
  have r1 : rd x5 1 = ((m.length + 1 + t.length : Nat) : Int) := by subst hx; rfl
  have hw : wrap64 (rd x5 1 + 1) = ((m.length + t.length + 2 : Nat) : Int) := by rw [r1, wrap64_ok (by omega) (by omega)]; omega
  have hlen : 1 < (x5.length : Int) := by subst hx; simp
  refine Ev.step (f := fun k => doorkeeperref10_Parse.j3 (k + 1) (ofL l) x5 (ofL t) (ofL v) b) (fun _ => rfl) ?_
  simp only [doorkeeperref10_Parse.j3]
  cases hv : verL v with
  | false =>
    rw [hv] at hb
    subst hb
    refine Ev.congr (fun k => if_pos rfl) (Ev.congr (fun k => if_pos hlen) ?_)
    rw [hw]
    exact Ev.now _
  | true =>
    rw [hv] at hb
    subst hb
    refine Ev.congr (fun k => if_neg (by simp)) ?_
    rw [if_neg (by simp), toList_ofL]
    cases hs : supL v with
    | true =>
      rw [if_neg (by simp)]
      have h4 := j4_ev l m t v x5 hx hl hn hs
      by_cases h0 : v = [72, 84, 84, 80, 47, 49, 46, 48]
      · exact Ev.congr (fun k => if_pos h0) h4
      · have h1 : (v != [72, 84, 84, 80, 47, 49, 46, 49]) = false := by
          simp only [supL, Bool.or_eq_true, beq_iff_eq] at hs
          rcases hs with h | h
          · exact absurd h h0
          · simp [h]
        rw [h1]
        exact Ev.congr (fun k => if_neg h0) h4
    | false =>
      rw [if_pos rfl]
      simp only [supL, Bool.or_eq_false_iff, beq_eq_false_iff_ne] at hs
      have h1 : (v != [72, 84, 84, 80, 47, 49, 46, 49]) = true := by simpa using hs.2
      rw [h1]
      refine Ev.congr (fun k => if_neg hs.1) ?_
      refine Ev.step (f := fun k => doorkeeperref10_Parse.j4 (k + 1) (ofL l) x5 (ofL t) (ofL v) true) (fun _ => rfl) ?_
      simp only [doorkeeperref10_Parse.j4]
      refine Ev.congr (fun k => if_pos trivial) (Ev.congr (fun k => if_pos hlen) ?_)
      rw [hw]
      exact Ev.now _

def tailR (m t v : List UInt8) : ROut := if verL v = false then badR 400 (m.length + t.length + 2) else if supL v = false then badR 505 (m.length + t.length + 2) else (ofL m, ofL t, (if v == [72, 84, 84, 80, 47, 49, 46, 49] then 1 else 0), 0, 0)
theorem ver_len {v : List UInt8} (h : v.length ≠ 8) : verL v = false := by
  unfold verL
  split
  · simp at h
  · rfl
theorem tail_ev (l m t v : List UInt8) (x5 : List Int) (hx : x5 = [(m.length : Int), ((m.length + 1 + t.length : Nat) : Int)]) (hl : l = m ++ 32 :: (t ++ 32 :: v)) (hn : l.length ≤ 100000) :
    Ev (fun k => doorkeeperref10_Parse.l1 k (ofL l) x5 (ofL t) (t.length : Int)) (tailR m t v) := by
  have hn2 : l.length = m.length + t.length + v.length + 2 := by rw [hl]; simp; omega
  have r1 : rd x5 1 = ((m.length + 1 + t.length : Nat) : Int) := by subst hx; rfl
  have hw : wrap64 (rd x5 1 + 1) = ((m.length + 1 + t.length + 1 : Nat) : Int) := by rw [r1, wrap64_ok (by omega) (by omega)]; omega
  have hlen : 1 < (x5.length : Int) := by subst hx; simp
  have hv : (ofL l).extract (m.length + 1 + t.length + 1) l.length = ofL v := by rw [hl]; exact part2 m t v
  have j3 := fun (b : Bool) (hb : b = !verL v) => j3_ev l m t v x5 hx hl hn b hb
  refine Ev.step (f := fun k => doorkeeperref10_Parse.l1 (k + 1) (ofL l) x5 (ofL t) (t.length : Int)) (fun _ => rfl) ?_
  simp only [doorkeeperref10_Parse.l1]
  refine Ev.congr (fun k => if_neg (by rw [size_ofL]; omega)) (Ev.congr (fun k => if_pos hlen) ?_)
  rw [hw]
  refine Ev.congr (fun k => if_pos (by omega)) (Ev.congr (fun k => if_pos (by rw [size_ofL]; omega)) ?_)
  rw [Int.toNat_natCast, size_ofL l, hv]
  by_cases h8 : v.length = 8
  · refine Ev.congr (fun k => if_pos (by rw [size_ofL]; omega)) (Ev.congr (fun k => if_pos (by decide)) (Ev.congr (fun k => if_pos (by rw [size_ofL]; omega)) ?_))
    match v, h8 with
    | [a, b, c, d, e, f, g, h], _ =>
      have hp : ((ofL [a, b, c, d, e, f, g, h]).extract 0 5).toList = [a, b, c, d, e] := by rw [extract_ofL, toList_ofL]; rfl
      rw [hp]
      have b5 : bt (ofL [a, b, c, d, e, f, g, h]) 5 = (f.toNat : Int) := bt_ofL _ _
      have b6 : bt (ofL [a, b, c, d, e, f, g, h]) 6 = (g.toNat : Int) := bt_ofL _ _
      have b7 : bt (ofL [a, b, c, d, e, f, g, h]) 7 = (h.toNat : Int) := bt_ofL _ _
      by_cases hpre : [a, b, c, d, e] = ([72, 84, 84, 80, 47] : List UInt8)
      · refine Ev.congr (fun k => if_pos hpre) (Ev.congr (fun k => if_pos (by rw [size_ofL]; simp)) ?_)
        rw [b5]
        refine Ev.bind (class1_ev f) ?_
        simp only [List.cons.injEq, and_true] at hpre
        obtain ⟨rfl, rfl, rfl, rfl, rfl⟩ := hpre
        cases hf : digB f with
        | false => exact Ev.congr (fun k => if_neg (by simp)) (j3 true (by simp [verL, hf]))
        | true =>
          refine Ev.congr (fun k => if_pos rfl) (Ev.congr (fun k => if_pos (by rw [size_ofL]; simp)) ?_)
          rw [b6]
          have hg : ((g.toNat : Int) = 46) ↔ g = 46 := u8_eq_nat g 46 (by omega)
          by_cases hg6 : g = 46
          · refine Ev.congr (fun k => if_pos (hg.2 hg6)) (Ev.congr (fun k => if_pos (by rw [size_ofL]; simp)) ?_)
            rw [b7]
            refine Ev.bind (class1_ev h) (j3 _ (by simp [verL, hf, hg6]))
          · exact Ev.congr (fun k => if_neg (fun hh => hg6 (hg.1 hh))) (j3 true (by simp [verL, hf, hg6]))
      · refine Ev.congr (fun k => if_neg hpre) (j3 true ?_)
        have : (a == 72 && b == 84 && c == 84 && d == 80 && e == 47) = false := by
          rw [Bool.eq_false_iff]
          intro hh
          simp only [Bool.and_eq_true, beq_iff_eq] at hh
          exact hpre (by simp [hh])
        simp [verL, this]
  · exact Ev.congr (fun k => if_neg (by rw [size_ofL]; omega)) (j3 true (by rw [ver_len h8]; rfl))

theorem vis_iff (c : UInt8) : visB c = true ↔ ¬ (c.toNat : Int) < 33 ∧ ¬ (c.toNat : Int) > 126 := by
  unfold visB
  have h1 : (33 ≤ c) ↔ ¬ (c.toNat : Int) < 33 := by rw [UInt8.le_iff_toNat_le, show (33 : UInt8).toNat = 33 from rfl]; omega
  have h2 : (c ≤ 126) ↔ ¬ (c.toNat : Int) > 126 := by rw [UInt8.le_iff_toNat_le, show (126 : UInt8).toNat = 126 from rfl]; omega
  rw [Bool.and_eq_true, decide_eq_true_eq, decide_eq_true_eq, h1, h2]
theorem l1_ev (l m t v : List UInt8) (x5 : List Int) (hx : x5 = [(m.length : Int), ((m.length + 1 + t.length : Nat) : Int)]) (hl : l = m ++ 32 :: (t ++ 32 :: v)) (hn : l.length ≤ 100000) : ∀ (d i : Nat), t.length - i = d → i ≤ t.length →
    Ev (fun k => doorkeeperref10_Parse.l1 k (ofL l) x5 (ofL t) (i : Int)) (if (t.drop i).all visB then tailR m t v else badR 400 (m.length + 1)) := by
  have hn2 : l.length = m.length + t.length + v.length + 2 := by rw [hl]; simp; omega
  have r0 : rd x5 0 = (m.length : Int) := by subst hx; rfl
  have hw : wrap64 (rd x5 0 + 1) = ((m.length + 1 : Nat) : Int) := by rw [r0, wrap64_ok (by omega) (by omega)]; omega
  have hlen : 0 < (x5.length : Int) := by subst hx; simp
  intro d
  induction d with
  | zero =>
    intro i hd hi
    obtain rfl : i = t.length := by omega
    rw [List.drop_length]
    exact tail_ev l m t v x5 hx hl hn
  | succ d ih =>
    intro i hd hi
    have h1 : i < t.length := by omega
    rw [drop_cons t i h1, List.all_cons]
    cases hb : visB t[i] with
    | true =>
      obtain ⟨b1, b2⟩ := (vis_iff _).1 hb
      refine Ev.step (f := fun k => doorkeeperref10_Parse.l1 k (ofL l) x5 (ofL t) ((i + 1 : Nat) : Int)) (fun k => ?_) (by rw [Bool.true_and]; exact ih (i + 1) (by omega) (by omega))
      simp only [doorkeeperref10_Parse.l1]
      rw [if_pos (by rw [size_ofL]; omega), if_pos (by omega), bt_nat _ _ h1, if_neg b1, if_neg b2, wrap_succ h1 (by omega)]
    | false =>
      rw [Bool.false_and]
      have hor : (t[i].toNat : Int) < 33 ∨ (t[i].toNat : Int) > 126 := by
        by_cases a : (t[i].toNat : Int) < 33
        · exact .inl a
        · by_cases b : (t[i].toNat : Int) > 126
          · exact .inr b
          · rw [(vis_iff _).2 ⟨a, b⟩] at hb; cases hb
      refine Ev.step (f := fun _ => some (badR 400 (m.length + 1))) (fun k => ?_) (by simpa using Ev.now (badR 400 (m.length + 1)))
      simp only [doorkeeperref10_Parse.l1]
      rw [if_pos (by rw [size_ofL]; omega), if_pos (by omega), bt_nat _ _ h1, hw]
      by_cases a : (t[i].toNat : Int) < 33
      · rw [if_pos a, if_pos hlen]; rfl
      · rw [if_neg a, if_pos (by omega), if_pos hlen]; rfl

theorem parse_ev (s : ByteArray) (hs : s.size ≤ 100000) : Ev (fun k => doorkeeperref10_Parse.f k s) (parseR (toL s)) := by
  rw [← ofL_toL s, toL_ofL]
  generalize hl : toL s = l
  have hn : l.length ≤ 100000 := by rw [← hl, toL_length]; exact hs
  have hf : ∀ k, doorkeeperref10_Parse.f k (ofL l) = doorkeeperref10_Parse.l0 k (ofL l) [] ((0 : Nat) : Int) := fun k => rfl
  refine Ev.congr hf (l0_ev l hn _ _ 0 [] rfl (Nat.zero_le _) (Nat.le_refl _) ?_)
  rw [List.nil_append, List.drop_zero, pos_split]
  refine Ev.step (f := fun k => doorkeeperref10_Parse.l0 (k + 1) (ofL l) (psum 0 (splitL 32 l)) (l.length : Int)) (fun _ => rfl) ?_
  simp only [doorkeeperref10_Parse.l0]
  refine Ev.congr (fun k => if_neg (by rw [size_ofL]; omega)) ?_
  have hps := psum_length (splitL 32 l) 0 (splitL_ne 32 l)
  by_cases h3 : (splitL 32 l).length = 3
  · obtain ⟨m, t, v, hsp⟩ : ∃ m t v, splitL 32 l = [m, t, v] := by
      match splitL 32 l, h3 with
      | [m, t, v], _ => exact ⟨m, t, v, rfl⟩
    have hR : parseR l = lineR m t v := by unfold parseR; rw [hsp]
    rw [hR]
    have hg := glue_split 32 l
    rw [hsp] at hg
    have hll : l = m ++ 32 :: (t ++ 32 :: v) := hg.symm
    rw [hsp]
    have hx : psum 0 [m, t, v] = [(m.length : Int), ((m.length + 1 + t.length : Nat) : Int)] := by simp [psum]
    rw [hx]
    have hn2 : l.length = m.length + t.length + v.length + 2 := by rw [hll]; simp; omega
    have r0 : rd [(m.length : Int), ((m.length + 1 + t.length : Nat) : Int)] 0 = (m.length : Int) := rfl
    have r1 : rd [(m.length : Int), ((m.length + 1 + t.length : Nat) : Int)] 1 = ((m.length + 1 + t.length : Nat) : Int) := rfl
    have hw : wrap64 ((m.length : Int) + 1) = ((m.length + 1 : Nat) : Int) := by rw [wrap64_ok (by omega) (by omega)]; omega
    refine Ev.congr (fun k => if_pos (by simp)) (Ev.congr (fun k => if_pos (by simp)) ?_)
    rw [r0]
    refine Ev.congr (fun k => if_pos (by omega)) (Ev.congr (fun k => if_pos (by rw [size_ofL]; omega)) ?_)
    have hm : (ofL l).extract 0 m.length = ofL m := by rw [hll]; exact part0 m t v
    rw [Int.toNat_natCast, hm]
    refine Ev.bind (isToken_ev (ofL m) (by rw [size_ofL]; omega)) ?_
    unfold lineR
    cases h0 : isTok (ofL m) with
    | false =>
      rw [if_pos rfl]
      refine Ev.step (f := fun _ => some _) (fun k => ?_) (Ev.now _)
      simp only [doorkeeperref10_Parse.j1]
      rw [if_pos (by simp)]; rfl
    | true =>
      rw [if_neg (by simp)]
      refine Ev.step (f := fun k => doorkeeperref10_Parse.j1 (k + 1) (ofL l) [(m.length : Int), ((m.length + 1 + t.length : Nat) : Int)] (!true)) (fun _ => rfl) ?_
      simp only [doorkeeperref10_Parse.j1]
      refine Ev.congr (fun k => if_neg (by simp)) (Ev.congr (fun k => if_pos (by simp)) (Ev.congr (fun k => if_pos (by simp)) ?_))
      rw [r0, r1, hw]
      refine Ev.congr (fun k => if_pos (by omega)) (Ev.congr (fun k => if_pos (by omega)) (Ev.congr (fun k => if_pos (by rw [size_ofL]; omega)) ?_))
      have ht : (ofL l).extract (m.length + 1) (m.length + 1 + t.length) = ofL t := by rw [hll]; exact part1 m t v
      rw [Int.toNat_natCast, Int.toNat_natCast, ht, toList_ofL]
      by_cases hte : t = []
      · subst hte
        rw [if_pos (by decide)]
        exact Ev.congr (fun k => if_pos rfl) (Ev.now _)
      · refine Ev.congr (fun k => if_neg hte) ?_
        have hv : isVis (ofL t) = t.all visB := by unfold Go.Proofs.YtiolgglipcijpaaDoor.ROct.isVis; rw [toL_ofL]; simp [hte]
        have h := l1_ev l m t v _ rfl hll hn _ 0 rfl (Nat.zero_le _)
        rw [List.drop_zero] at h
        rw [hv]
        cases ha : t.all visB with
        | false => rw [ha] at h; rw [if_pos rfl]; exact h
        | true => rw [ha] at h; rw [if_neg (by simp)]; exact h
  · have hR : parseR l = badR 400 0 := by
      unfold parseR
      split
      · rename_i hsp; rw [hsp] at h3; exact absurd rfl h3
      · rfl
    rw [hR]
    have h2 : ¬ ((psum 0 (splitL 32 l)).length : Int) = 2 := by omega
    refine Ev.congr (fun k => if_neg h2) ?_
    refine Ev.step (f := fun _ => some _) (fun k => ?_) (Ev.now _)
    simp only [doorkeeperref10_Parse.j1]
    rw [if_pos trivial]; rfl

end Go.Proofs.YtiolgglipcijpaaDoor.QRef
end

section
namespace Go.Proofs.YtiolgglipcijpaaDoor.P
open Go.RowKit Go.Proofs.YtiolgglipcijpaaDoorW.PrintWords Go.Proofs.YtiolgglipcijpaaDoorW.PrintLast Go.Proofs.YtiolgglipcijpaaDoorW.PrintMore
attribute [local go_sem] max2_int min2_int max_two min_two max_three min_three max_four min_four   -- for this text's walks alone
set_option linter.unusedVariables false
set_option linter.unusedSimpArgs false

/-! ### reqline_Text: function 15 -/
def reqline_Text.f (a0_0 : ByteArray) (a0_1 : ByteArray) (a0_2 : Int) : Option (ByteArray) := if a0_2 = 0 then (if a0_0.size + 1 ≤ 9223372036854775807 then (if (a0_0 ++ (⟨#[32]⟩ : ByteArray)).size + a0_1.size ≤ 9223372036854775807 then (if ((a0_0 ++ (⟨#[32]⟩ : ByteArray)) ++ a0_1).size + 1 ≤ 9223372036854775807 then (if (((a0_0 ++ (⟨#[32]⟩ : ByteArray)) ++ a0_1) ++ (⟨#[32]⟩ : ByteArray)).size + 8 ≤ 9223372036854775807 then (some ((((a0_0 ++ (⟨#[32]⟩ : ByteArray)) ++ a0_1) ++ (⟨#[32]⟩ : ByteArray)) ++ (⟨#[72, 84, 84, 80, 47, 49, 46, 48]⟩ : ByteArray))) else (none)) else (none)) else (none)) else (none)) else (if a0_0.size + 1 ≤ 9223372036854775807 then (if (a0_0 ++ (⟨#[32]⟩ : ByteArray)).size + a0_1.size ≤ 9223372036854775807 then (if ((a0_0 ++ (⟨#[32]⟩ : ByteArray)) ++ a0_1).size + 1 ≤ 9223372036854775807 then (if (((a0_0 ++ (⟨#[32]⟩ : ByteArray)) ++ a0_1) ++ (⟨#[32]⟩ : ByteArray)).size + 8 ≤ 9223372036854775807 then (some ((((a0_0 ++ (⟨#[32]⟩ : ByteArray)) ++ a0_1) ++ (⟨#[32]⟩ : ByteArray)) ++ (⟨#[72, 84, 84, 80, 47, 49, 46, 49]⟩ : ByteArray))) else (none)) else (none)) else (none)) else (none))
set_option maxHeartbeats 8000000 in
set_option maxRecDepth 100000 in
theorem reqline_Text.calls (a0_0 : ByteArray) (a0_1 : ByteArray) (a0_2 : Int) (r : ByteArray) (w : World) (h : reqline_Text.f a0_0 a0_1 a0_2 = some r) :
    Calls Tryd.prog 15 #[.agg #[.string a0_0, .string a0_1, .int .i64 a0_2]] w fun e w' => e = .returned (.string r) ∧ Below w.heap.size w w' := by
  have hu24 := Tryd.underlying24
  have HB := Aside0.mk (Below.refl w.heap.size w)
  have H : (if a0_2 = 0 then (if a0_0.size + 1 ≤ 9223372036854775807 then (if (a0_0 ++ (⟨#[32]⟩ : ByteArray)).size + a0_1.size ≤ 9223372036854775807 then (if ((a0_0 ++ (⟨#[32]⟩ : ByteArray)) ++ a0_1).size + 1 ≤ 9223372036854775807 then (if (((a0_0 ++ (⟨#[32]⟩ : ByteArray)) ++ a0_1) ++ (⟨#[32]⟩ : ByteArray)).size + 8 ≤ 9223372036854775807 then (some ((((a0_0 ++ (⟨#[32]⟩ : ByteArray)) ++ a0_1) ++ (⟨#[32]⟩ : ByteArray)) ++ (⟨#[72, 84, 84, 80, 47, 49, 46, 48]⟩ : ByteArray))) else (none)) else (none)) else (none)) else (none)) else (if a0_0.size + 1 ≤ 9223372036854775807 then (if (a0_0 ++ (⟨#[32]⟩ : ByteArray)).size + a0_1.size ≤ 9223372036854775807 then (if ((a0_0 ++ (⟨#[32]⟩ : ByteArray)) ++ a0_1).size + 1 ≤ 9223372036854775807 then (if (((a0_0 ++ (⟨#[32]⟩ : ByteArray)) ++ a0_1) ++ (⟨#[32]⟩ : ByteArray)).size + 8 ≤ 9223372036854775807 then (some ((((a0_0 ++ (⟨#[32]⟩ : ByteArray)) ++ a0_1) ++ (⟨#[32]⟩ : ByteArray)) ++ (⟨#[72, 84, 84, 80, 47, 49, 46, 49]⟩ : ByteArray))) else (none)) else (none)) else (none)) else (none))) = some r := h
  clear h
  by_cases c2 : a0_2 = 0
  · rw [if_pos c2] at H
    have c2b0 : (a0_2 == 0) = true := beq_iff_eq.mpr c2
    have c2b1 : (a0_2 != 0) = false := bne_eq_false_iff_eq.mpr c2
    clear c2
    by_cases c3 : a0_0.size + 1 ≤ 9223372036854775807
    · rw [if_pos c3] at H
      have c3b0 := eq_true c3
      have c3b1 : decide (a0_0.size + 1 ≤ 9223372036854775807) = true := decide_eq_true c3
      try have c3b2 : (9223372036854775807 < a0_0.size + 1) = False := eq_false (Nat.not_lt.2 c3)
      by_cases c4 : (a0_0 ++ (⟨#[32]⟩ : ByteArray)).size + a0_1.size ≤ 9223372036854775807
      · rw [if_pos c4] at H
        have c4b0 := eq_true c4
        have c4b1 : decide ((a0_0 ++ (⟨#[32]⟩ : ByteArray)).size + a0_1.size ≤ 9223372036854775807) = true := decide_eq_true c4
        try have c4b2 : (9223372036854775807 < (a0_0 ++ (⟨#[32]⟩ : ByteArray)).size + a0_1.size) = False := eq_false (Nat.not_lt.2 c4)
        try have c4b3 : (9223372036854775807 < a0_0.size + 1 + a0_1.size) = False := (by have h_ := c4b2; (repeat rw [ByteArray.size_append] at h_); exact h_)
        by_cases c5 : ((a0_0 ++ (⟨#[32]⟩ : ByteArray)) ++ a0_1).size + 1 ≤ 9223372036854775807
        · rw [if_pos c5] at H
          have c5b0 := eq_true c5
          have c5b1 : decide (((a0_0 ++ (⟨#[32]⟩ : ByteArray)) ++ a0_1).size + 1 ≤ 9223372036854775807) = true := decide_eq_true c5
          try have c5b2 : (9223372036854775807 < ((a0_0 ++ (⟨#[32]⟩ : ByteArray)) ++ a0_1).size + 1) = False := eq_false (Nat.not_lt.2 c5)
          try have c5b3 : (9223372036854775807 < a0_0.size + 1 + a0_1.size + 1) = False := (by have h_ := c5b2; (repeat rw [ByteArray.size_append] at h_); exact h_)
          by_cases c6 : (((a0_0 ++ (⟨#[32]⟩ : ByteArray)) ++ a0_1) ++ (⟨#[32]⟩ : ByteArray)).size + 8 ≤ 9223372036854775807
          · rw [if_pos c6] at H
            have c6b0 := eq_true c6
            have c6b1 : decide ((((a0_0 ++ (⟨#[32]⟩ : ByteArray)) ++ a0_1) ++ (⟨#[32]⟩ : ByteArray)).size + 8 ≤ 9223372036854775807) = true := decide_eq_true c6
            try have c6b2 : (9223372036854775807 < (((a0_0 ++ (⟨#[32]⟩ : ByteArray)) ++ a0_1) ++ (⟨#[32]⟩ : ByteArray)).size + 8) = False := eq_false (Nat.not_lt.2 c6)
            try have c6b3 : (9223372036854775807 < a0_0.size + 1 + a0_1.size + 1 + 8) = False := (by have h_ := c6b2; (repeat rw [ByteArray.size_append] at h_); exact h_)
            obtain rfl := Option.some.inj H
            go_enter Tryd.func15, Tryd.ntmps15
            go_wp2_with (first | ((with_reducible refine gate_dst (N := 1) rfl ?_); refine box_event ?hg (N := 1) ?hd (cs := #[.string a0_0, .string a0_1, .int .i64 a0_2]) (t := 24) ?hr ?_; (case hd => rfl); (case hg => rfl); (case hr => first | (go_simp; done) | (go_simp; rfl)); intro gb101 hg w7 hbox hb; have n0_ := Aside0.mk (below_step (by repeat (first | (with_reducible first | exact HB.out | apply below_alloc | apply pw_below_drewN | apply below_drew1) | exact HB.out)) hb); have n1_ := Aside0.mk (hbox); have n2_ := Aside0.mk ((by rw [hg]; exact (below_size (by repeat (first | (with_reducible first | exact HB.out | apply below_alloc | apply pw_below_drewN | apply below_drew1) | exact HB.out))) : w.heap.size ≤ gb101)); have n3_ := Aside0.mk ((by rw [hg]; exact (below_size (by repeat (first | (with_reducible first | exact HB.out | apply below_alloc | apply pw_below_drewN | apply below_drew1) | exact HB.out))) : w.heap.size ≤ gb101)); clear HB; have HB := n0_; have BK101 := n1_; have GW101 := n2_; have GE101 := n3_; clear n0_ n1_ n2_ n3_; clear hb hbox hg; have hcz8_0 : w7.cell? ⟨gb101, 0, none⟩ = some (.string a0_0) := (blk_cell BK101.out 0).trans rfl; have hcz8_1 : w7.cell? ⟨gb101, 1, none⟩ = some (.string a0_1) := (blk_cell BK101.out 1).trans rfl; have hcz8_2 : w7.cell? ⟨gb101, 2, none⟩ = some (.int .i64 a0_2) := (blk_cell BK101.out 2).trans rfl; have hfz8_0 := blk_frozen BK101.out 0; have hfz8_1 := blk_frozen BK101.out 1; have hfz8_2 := blk_frozen BK101.out 2))
            go_ret
            exact ⟨by first | rfl | (simp [errW_none, errW_some] <;> rfl) | (simp [*, errW_none, errW_some] <;> rfl), by repeat (first | (with_reducible first | exact HB.out | apply below_alloc | apply pw_below_drewN | apply below_drew1 | refine below_set ?_ GE101.out) | exact HB.out)⟩
          · rw [if_neg c6] at H
            exact absurd H (by simp)
        · rw [if_neg c5] at H
          exact absurd H (by simp)
      · rw [if_neg c4] at H
        exact absurd H (by simp)
    · rw [if_neg c3] at H
      exact absurd H (by simp)
  · rw [if_neg c2] at H
    have c2b0 : (a0_2 == 0) = false := beq_eq_false_iff_ne.mpr c2
    have c2b1 : (a0_2 != 0) = true := bne_iff_ne.mpr c2
    by_cases c9 : a0_0.size + 1 ≤ 9223372036854775807
    · rw [if_pos c9] at H
      have c9b0 := eq_true c9
      have c9b1 : decide (a0_0.size + 1 ≤ 9223372036854775807) = true := decide_eq_true c9
      try have c9b2 : (9223372036854775807 < a0_0.size + 1) = False := eq_false (Nat.not_lt.2 c9)
      by_cases c10 : (a0_0 ++ (⟨#[32]⟩ : ByteArray)).size + a0_1.size ≤ 9223372036854775807
      · rw [if_pos c10] at H
        have c10b0 := eq_true c10
        have c10b1 : decide ((a0_0 ++ (⟨#[32]⟩ : ByteArray)).size + a0_1.size ≤ 9223372036854775807) = true := decide_eq_true c10
        try have c10b2 : (9223372036854775807 < (a0_0 ++ (⟨#[32]⟩ : ByteArray)).size + a0_1.size) = False := eq_false (Nat.not_lt.2 c10)
        try have c10b3 : (9223372036854775807 < a0_0.size + 1 + a0_1.size) = False := (by have h_ := c10b2; (repeat rw [ByteArray.size_append] at h_); exact h_)
        by_cases c11 : ((a0_0 ++ (⟨#[32]⟩ : ByteArray)) ++ a0_1).size + 1 ≤ 9223372036854775807
        · rw [if_pos c11] at H
          have c11b0 := eq_true c11
          have c11b1 : decide (((a0_0 ++ (⟨#[32]⟩ : ByteArray)) ++ a0_1).size + 1 ≤ 9223372036854775807) = true := decide_eq_true c11
          try have c11b2 : (9223372036854775807 < ((a0_0 ++ (⟨#[32]⟩ : ByteArray)) ++ a0_1).size + 1) = False := eq_false (Nat.not_lt.2 c11)
          try have c11b3 : (9223372036854775807 < a0_0.size + 1 + a0_1.size + 1) = False := (by have h_ := c11b2; (repeat rw [ByteArray.size_append] at h_); exact h_)
          by_cases c12 : (((a0_0 ++ (⟨#[32]⟩ : ByteArray)) ++ a0_1) ++ (⟨#[32]⟩ : ByteArray)).size + 8 ≤ 9223372036854775807
          · rw [if_pos c12] at H
            have c12b0 := eq_true c12
            have c12b1 : decide ((((a0_0 ++ (⟨#[32]⟩ : ByteArray)) ++ a0_1) ++ (⟨#[32]⟩ : ByteArray)).size + 8 ≤ 9223372036854775807) = true := decide_eq_true c12
            try have c12b2 : (9223372036854775807 < (((a0_0 ++ (⟨#[32]⟩ : ByteArray)) ++ a0_1) ++ (⟨#[32]⟩ : ByteArray)).size + 8) = False := eq_false (Nat.not_lt.2 c12)
            try have c12b3 : (9223372036854775807 < a0_0.size + 1 + a0_1.size + 1 + 8) = False := (by have h_ := c12b2; (repeat rw [ByteArray.size_append] at h_); exact h_)
            obtain rfl := Option.some.inj H
            go_enter Tryd.func15, Tryd.ntmps15
            go_wp2_with (first | ((with_reducible refine gate_dst (N := 1) rfl ?_); refine box_event ?hg (N := 1) ?hd (cs := #[.string a0_0, .string a0_1, .int .i64 a0_2]) (t := 24) ?hr ?_; (case hd => rfl); (case hg => rfl); (case hr => first | (go_simp; done) | (go_simp; rfl)); intro gb101 hg w13 hbox hb; have n0_ := Aside0.mk (below_step (by repeat (first | (with_reducible first | exact HB.out | apply below_alloc | apply pw_below_drewN | apply below_drew1) | exact HB.out)) hb); have n1_ := Aside0.mk (hbox); have n2_ := Aside0.mk ((by rw [hg]; exact (below_size (by repeat (first | (with_reducible first | exact HB.out | apply below_alloc | apply pw_below_drewN | apply below_drew1) | exact HB.out))) : w.heap.size ≤ gb101)); have n3_ := Aside0.mk ((by rw [hg]; exact (below_size (by repeat (first | (with_reducible first | exact HB.out | apply below_alloc | apply pw_below_drewN | apply below_drew1) | exact HB.out))) : w.heap.size ≤ gb101)); clear HB; have HB := n0_; have BK101 := n1_; have GW101 := n2_; have GE101 := n3_; clear n0_ n1_ n2_ n3_; clear hb hbox hg; have hcz14_0 : w13.cell? ⟨gb101, 0, none⟩ = some (.string a0_0) := (blk_cell BK101.out 0).trans rfl; have hcz14_1 : w13.cell? ⟨gb101, 1, none⟩ = some (.string a0_1) := (blk_cell BK101.out 1).trans rfl; have hcz14_2 : w13.cell? ⟨gb101, 2, none⟩ = some (.int .i64 a0_2) := (blk_cell BK101.out 2).trans rfl; have hfz14_0 := blk_frozen BK101.out 0; have hfz14_1 := blk_frozen BK101.out 1; have hfz14_2 := blk_frozen BK101.out 2))
            go_ret
            exact ⟨by first | rfl | (simp [errW_none, errW_some] <;> rfl) | (simp [*, errW_none, errW_some] <;> rfl), by repeat (first | (with_reducible first | exact HB.out | apply below_alloc | apply pw_below_drewN | apply below_drew1 | refine below_set ?_ GE101.out) | exact HB.out)⟩
          · rw [if_neg c12] at H
            exact absurd H (by simp)
        · rw [if_neg c11] at H
          exact absurd H (by simp)
      · rw [if_neg c10] at H
        exact absurd H (by simp)
    · rw [if_neg c9] at H
      exact absurd H (by simp)

end Go.Proofs.YtiolgglipcijpaaDoor.P
end

section
namespace Go.Proofs.YtiolgglipcijpaaDoor.P
open Go.RowKit Go.Proofs.YtiolgglipcijpaaDoorW.PrintWords Go.Proofs.YtiolgglipcijpaaDoorW.PrintLast Go.Proofs.YtiolgglipcijpaaDoorW.PrintMore
attribute [local go_sem] max2_int min2_int max_two min_two max_three min_three max_four min_four   -- for this text's walks alone
set_option linter.unusedVariables false
set_option linter.unusedSimpArgs false

theorem eqA24 (d : Nat) (w : World) (x0 y0 : ByteArray) (x1 y1 : ByteArray) (x2 y2 : Int) :
    (Op.equalIn (d + 2) 24 (.agg #[.string x0, .string x1, .int .i64 x2]) (.agg #[.string y0, .string y1, .int .i64 y2])).run Tryd.prog w = .ok (x0.toList == y0.toList && (x1.toList == y1.toList && (x2 == y2))) w := by
  refine eqA_of Tryd.underlying24 (by kernel_rfl) ?_
  refine eqf_cons (by rfl) (by go_simp; rfl) (by go_simp; rfl) (by go_simp) ?_
  refine eqf_cons (by rfl) (by go_simp; rfl) (by go_simp; rfl) (by go_simp) ?_
  exact eqf_last (by rfl) (by go_simp; rfl) (by go_simp; rfl) (by go_simp)
end Go.Proofs.YtiolgglipcijpaaDoor.P
end
