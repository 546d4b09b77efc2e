/- What the laws of layer 12 share: they are awake, and what the functions give. The law 'ListsMatchReference', on what the functions give: for every input it comes to true. The law 'ListsMatchReference' returns true for every input, and each argument reads afterwards as it read before. Conditions: none but the row's own cells (what the listed package-level variables hold is tied to the program's text by the card). -/
import Derived.Test.YthilbpgkhjchcaaDoorBMatchReference2
import Derived.Test.YthilbpgkhjchcaaDoorBMatchReference3
import Derived.Test.YthilbpgkhjchcaaDoorBMatchReference0
import Derived.Test.YthilbpgkhjchcaaDoorBMatchReference1
import Derived.Test.YthilbpgkhjchcaaDoorCards
import Derived.Test.YthilbpgkhjchcaaDoorTie
import Derived.WalkKit
import Derived.ProofKit
import Derived.OpenShut
import Derived.ShutString
import Derived.ChangeOld
import Derived.Below
import Derived.SizedLaws
import Derived.SliceStrings
import Derived.LaidMore
import Derived.Lay
import Derived.SevenTiedAt
import Derived.Stop.Joined

section
namespace Go.Proofs.YthilbpgkhjchcaaDoor.LPure
open Go Go.RowKit Go.Proofs.YthilbpgkhjchcaaDoorW.PrintWords Go.Proofs.YthilbpgkhjchcaaDoor.PB Go.Proofs.YthilbpgkhjchcaaDoor.P Go.Proofs.YthilbpgkhjchcaaDoor.CRef Go.Proofs.YthilbpgkhjchcaaDoor.LRef Go.Proofs.YthilbpgkhjchcaaDoor.LPlain
open Go.Proofs.YthilbpgkhjchcaaDoor.LSpec (blankL trimL splitL elemsL elemsAll total total_mem total_length elemsAll_append elemsAll_one elemsAll_length splitL_ne)
open Go.Proofs.YthilbpgkhjchcaaDoor.LElems (gives)
open Go.Proofs.YthilbpgkhjchcaaDoor.LTok (toks tokList tokOk hasW)

theorem max_int : maxLen ≤ 9223372036854775807 := by decide
theorem aw : doorkeeperlaw12_awake.f 30 = some true := by decide +kernel
theorem aw_ev : Ev (fun k => doorkeeperlaw12_awake.f k) true := Ev.of (fun k => doorkeeperlaw12_awake.mono k) aw
theorem elements_f {l : List ByteArray} (h : total l ≤ 1099511627776) : lists_Elements.f l = some (gives l) := if_pos h
theorem tokens_f {l : List ByteArray} (h : total l ≤ 1099511627776) : lists_Tokens.f l = some (tokList l, tokOk l) := if_pos h
theorem has_f {w : ByteArray} {l : List ByteArray} (hw : w.size ≤ 140737488351232) (h : total l ≤ 1099511627776) : lists_Has.f w l = some (hasW w (gives l)) := if_pos ⟨hw, h⟩
theorem join_f {l : List ByteArray} (h : total l ≤ 1099511627776) : lists_Join.f l = some (joinS l) := if_pos h
theorem gives_max {l : List ByteArray} (h : total l ≤ 1099511627776) : (gives l).length ≤ 9223372036854775807 := by
  have := gives_len l; omega
theorem ev_true {f : Nat → Option Bool} {b : Bool} (h : b = true) (he : Ev f b) : Ev f true := by rw [← h]; exact he

theorem join_one_total (l : List ByteArray) (h : total l ≤ 20000) : total [joinS l] ≤ 1099511627776 := by
  have := join_size l
  simp [total] at this ⊢
  simp [total] at h
  omega

end Go.Proofs.YthilbpgkhjchcaaDoor.LPure
end

section
namespace Go.Proofs.YthilbpgkhjchcaaDoor.P
open Go.RowKit Go.Proofs.YthilbpgkhjchcaaDoorW.PrintWords Go.Proofs.YthilbpgkhjchcaaDoorW.PrintLast Go.Proofs.YthilbpgkhjchcaaDoorW.PrintMore
attribute [local go_sem] max2_int min2_int max_two min_two max_three min_three max_four min_four   -- for this text's walks alone
set_option linter.unusedVariables false
set_option linter.unusedSimpArgs false

/-! ### doorkeeperlaw12_ListsMatchReference: function 3 -/
mutual
def doorkeeperlaw12_ListsMatchReference.j0 : Nat → List ByteArray → ByteArray → Bool → Option (Bool)
  | 0, _, _, _ => none
  | k + 1, x0, x1, x20 => if x20 = true then ((doorkeeperlaw12_awake.f k).bind fun t185 => (some t185)) else ((lists_Tokens.f x0).bind fun bt186 => ((doorkeeperref12_Tokens.f k x0).bind fun bt190 => (if (bt186.2 != bt190.2) = true then (doorkeeperlaw12_ListsMatchReference.j1 k x0 x1 true) else ((doorkeeperref09_Texts.f k bt186.1 bt190.1).bind fun t194 => (if t194 = true then (if bt186.2 = true then (doorkeeperlaw12_ListsMatchReference.j1 k x0 x1 false) else (doorkeeperlaw12_ListsMatchReference.j1 k x0 x1 ((bt186.1.length : Int) != 0))) else (if bt190.2 = true then (doorkeeperlaw12_ListsMatchReference.j1 k x0 x1 true) else (if bt186.2 = true then (doorkeeperlaw12_ListsMatchReference.j1 k x0 x1 false) else (doorkeeperlaw12_ListsMatchReference.j1 k x0 x1 ((bt186.1.length : Int) != 0)))))))))
def doorkeeperlaw12_ListsMatchReference.j1 : Nat → List ByteArray → ByteArray → Bool → Option (Bool)
  | 0, _, _, _ => none
  | k + 1, x0, x1, x52 => if x52 = true then (some false) else ((lists_Elements.f x0).bind fun t195 => ((doorkeeperref12_Elements.f k x0).bind fun t198 => ((doorkeeperref09_Texts.f k t195 t198).bind fun t201 => (if t201 = true then ((lists_Has.f x1 x0).bind fun t202 => ((doorkeeperref12_Has.f k x1 x0).bind fun t203 => (some (t202 == t203)))) else (some false)))))
end
def doorkeeperlaw12_ListsMatchReference.f (k : Nat) (l0 : List ByteArray) (a1 : ByteArray) : Option (Bool) := (doorkeeperlaw12_awake.f k).bind fun t183 => (if t183 = true then ((doorkeeperref12_Few.f k l0).bind fun t184 => (if t184 = true then (doorkeeperlaw12_ListsMatchReference.j0 k l0 a1 (decide ((a1.size : Int) > 100))) else (doorkeeperlaw12_ListsMatchReference.j0 k l0 a1 true))) else (doorkeeperlaw12_ListsMatchReference.j0 k l0 a1 true))
theorem doorkeeperlaw12_ListsMatchReference.mono_l : ∀ k, (∀ y0 y1 y2, LeO (doorkeeperlaw12_ListsMatchReference.j0 k y0 y1 y2) (doorkeeperlaw12_ListsMatchReference.j0 (k + 1) y0 y1 y2)) ∧ (∀ y0 y1 y2, LeO (doorkeeperlaw12_ListsMatchReference.j1 k y0 y1 y2) (doorkeeperlaw12_ListsMatchReference.j1 (k + 1) y0 y1 y2))
  | 0 => ⟨fun _ _ _ r h => by simp [doorkeeperlaw12_ListsMatchReference.j0] at h, fun _ _ _ r h => by simp [doorkeeperlaw12_ListsMatchReference.j1] at h⟩
  | k + 1 => by
    obtain ⟨ih0, ih1⟩ := doorkeeperlaw12_ListsMatchReference.mono_l k
    refine ⟨?_, ?_⟩
    · intro y0 y1 y2
      unfold doorkeeperlaw12_ListsMatchReference.j0
      repeat' first
      | (with_reducible exact ih0 _ _ _)
      | (with_reducible exact ih1 _ _ _)
      | (with_reducible exact doorkeeperlaw12_awake.mono _)
      | (with_reducible exact doorkeeperref09_Texts.mono _ _ _)
      | (with_reducible exact doorkeeperref12_Elements.mono _ _)
      | (with_reducible exact doorkeeperref12_Few.mono _ _)
      | (with_reducible exact doorkeeperref12_Has.mono _ _ _)
      | (with_reducible exact doorkeeperref12_Tokens.mono _ _)
      | (with_reducible exact LeO.refl _)
      | (with_reducible exact LeO.none _)
      | (with_reducible refine LeO.ite ?_ ?_)
      | (with_reducible refine LeO.bind ?_ (fun _ => ?_))
      | exact ih0 _ _ _
      | exact ih1 _ _ _
      | exact doorkeeperlaw12_awake.mono _
      | exact doorkeeperref09_Texts.mono _ _ _
      | exact doorkeeperref12_Elements.mono _ _
      | exact doorkeeperref12_Few.mono _ _
      | exact doorkeeperref12_Has.mono _ _ _
      | exact doorkeeperref12_Tokens.mono _ _
      | exact LeO.none _
      | refine LeO.ite ?_ ?_
      | refine LeO.bind ?_ (fun _ => ?_)
    · intro y0 y1 y2
      unfold doorkeeperlaw12_ListsMatchReference.j1
      repeat' first
      | (with_reducible exact ih0 _ _ _)
      | (with_reducible exact ih1 _ _ _)
      | (with_reducible exact doorkeeperlaw12_awake.mono _)
      | (with_reducible exact doorkeeperref09_Texts.mono _ _ _)
      | (with_reducible exact doorkeeperref12_Elements.mono _ _)
      | (with_reducible exact doorkeeperref12_Few.mono _ _)
      | (with_reducible exact doorkeeperref12_Has.mono _ _ _)
      | (with_reducible exact doorkeeperref12_Tokens.mono _ _)
      | (with_reducible exact LeO.refl _)
      | (with_reducible exact LeO.none _)
      | (with_reducible refine LeO.ite ?_ ?_)
      | (with_reducible refine LeO.bind ?_ (fun _ => ?_))
      | exact ih0 _ _ _
      | exact ih1 _ _ _
      | exact doorkeeperlaw12_awake.mono _
      | exact doorkeeperref09_Texts.mono _ _ _
      | exact doorkeeperref12_Elements.mono _ _
      | exact doorkeeperref12_Few.mono _ _
      | exact doorkeeperref12_Has.mono _ _ _
      | exact doorkeeperref12_Tokens.mono _ _
      | exact LeO.none _
      | refine LeO.ite ?_ ?_
      | refine LeO.bind ?_ (fun _ => ?_)
theorem doorkeeperlaw12_ListsMatchReference.mono : ∀ a0 a1 k, LeO (doorkeeperlaw12_ListsMatchReference.f k a0 a1) (doorkeeperlaw12_ListsMatchReference.f (k + 1) a0 a1) := by
  intro a0 a1 k
  obtain ⟨ih0, ih1⟩ := doorkeeperlaw12_ListsMatchReference.mono_l k
  unfold doorkeeperlaw12_ListsMatchReference.f
  repeat' first
      | (with_reducible exact ih0 _ _ _)
      | (with_reducible exact ih1 _ _ _)
      | (with_reducible exact doorkeeperlaw12_awake.mono _)
      | (with_reducible exact doorkeeperref09_Texts.mono _ _ _)
      | (with_reducible exact doorkeeperref12_Elements.mono _ _)
      | (with_reducible exact doorkeeperref12_Few.mono _ _)
      | (with_reducible exact doorkeeperref12_Has.mono _ _ _)
      | (with_reducible exact doorkeeperref12_Tokens.mono _ _)
      | (with_reducible exact LeO.refl _)
      | (with_reducible exact LeO.none _)
      | (with_reducible refine LeO.ite ?_ ?_)
      | (with_reducible refine LeO.bind ?_ (fun _ => ?_))
      | exact ih0 _ _ _
      | exact ih1 _ _ _
      | exact doorkeeperlaw12_awake.mono _
      | exact doorkeeperref09_Texts.mono _ _ _
      | exact doorkeeperref12_Elements.mono _ _
      | exact doorkeeperref12_Few.mono _ _
      | exact doorkeeperref12_Has.mono _ _ _
      | exact doorkeeperref12_Tokens.mono _ _
      | exact LeO.none _
      | refine LeO.ite ?_ ?_
      | refine LeO.bind ?_ (fun _ => ?_)
set_option maxHeartbeats 8000000 in
set_option maxRecDepth 100000 in
theorem doorkeeperlaw12_ListsMatchReference.calls (k : Nat) (A0 : Option Addr) (c0 : Nat) (l0 : List ByteArray) (a1 : ByteArray) (r : Bool) (w : World) (hr0 : Kd.C Kd.string w A0 l0.length l0) (hc0 : l0.length ≤ c0) (h : doorkeeperlaw12_ListsMatchReference.f k l0 a1 = some r) :
    Calls Tryd.prog 3 #[.slice A0 l0.length c0, .string a1] w fun e w' => e = .returned (.bool r) ∧ Below w.heap.size w w' := by
  have HR0 := Aside0.mk hr0
  have HC0 := Aside0.mk hc0
  clear hr0 hc0
  have HB := Aside0.mk (Below.refl w.heap.size w)
  have H : ((doorkeeperlaw12_awake.f k).bind fun t183 => (if t183 = true then ((doorkeeperref12_Few.f k l0).bind fun t184 => (if t184 = true then (doorkeeperlaw12_ListsMatchReference.j0 k l0 a1 (decide ((a1.size : Int) > 100))) else (doorkeeperlaw12_ListsMatchReference.j0 k l0 a1 true))) else (doorkeeperlaw12_ListsMatchReference.j0 k l0 a1 true))) = some r := h
  clear h
  have HC3 := Aside0.mk H
  clear H
  go_enter Tryd.func3, Tryd.ntmps3
  go_upto_region 1 with (fail)
  go_cut [20] (fun v20 wc => ∃ (kq : Nat) (x20_2 : Bool), v20 = .bool x20_2 ∧ Aside0 (doorkeeperlaw12_ListsMatchReference.j0 kq l0 a1 x20_2 = some r) ∧ Aside0 (kq ≤ k) ∧ Aside0 (Below w.heap.size w wc))
  case first =>
    have H := HC3.out
    clear HC3
    replace H := Option.bind_eq_some_iff.mp H
    obtain ⟨t183, A40, H⟩ := H
    replace H : (if t183 = true then ((doorkeeperref12_Few.f k l0).bind fun t184 => (if t184 = true then (doorkeeperlaw12_ListsMatchReference.j0 k l0 a1 (decide ((a1.size : Int) > 100))) else (doorkeeperlaw12_ListsMatchReference.j0 k l0 a1 true))) else (doorkeeperlaw12_ListsMatchReference.j0 k l0 a1 true)) = some r := H
    have A4 := Aside0.mk A40
    clear A40
    by_cases c5 : t183 = true
    · subst c5
      have H1 : ((doorkeeperref12_Few.f k l0).bind fun t184 => (if t184 = true then (doorkeeperlaw12_ListsMatchReference.j0 k l0 a1 (decide ((a1.size : Int) > 100))) else (doorkeeperlaw12_ListsMatchReference.j0 k l0 a1 true))) = some r := by rw [if_pos rfl] at H; exact H
      clear H
      have H := H1
      clear H1
      replace H := Option.bind_eq_some_iff.mp H
      obtain ⟨t184, A60, H⟩ := H
      replace H : (if t184 = true then (doorkeeperlaw12_ListsMatchReference.j0 k l0 a1 (decide ((a1.size : Int) > 100))) else (doorkeeperlaw12_ListsMatchReference.j0 k l0 a1 true)) = some r := H
      have A6 := Aside0.mk A60
      clear A60
      by_cases c7 : t184 = true
      · subst c7
        have H1 : (doorkeeperlaw12_ListsMatchReference.j0 k l0 a1 (decide ((a1.size : Int) > 100))) = some r := by rw [if_pos rfl] at H; exact H
        clear H
        have H := H1
        clear H1
        have H' := Aside0.mk H
        clear H
        go_wp2_with (first | ((with_reducible refine gate_callee (f := 8) rfl ?_); refine goesL_ (some 9) rfl rfl Tryd.func8 (by kernel_rfl) rfl #[] rfl (by (try simp only [List.map_toArray, List.map_cons, List.map_nil]); first | done | rfl | (simp only [List.length_drop, List.length_take]; rfl)) ?_; (with_reducible refine (doorkeeperlaw12_awake.calls k  true _ A4.out).mono ?_); rintro e w8 ⟨rfl, hb⟩; refine ⟨_, rfl, ?_⟩; have n0_ := Aside0.mk (below_step (by repeat (first | (with_reducible first | exact HB.out | apply below_alloc | apply pw_below_drewN | apply below_drew1) | exact HB.out)) hb); clear HB; have HB := n0_; clear n0_; (try clear hb); (try clear hb2); (try clear hk); (try clear hi)) | (go_at_call 9; (with_reducible refine (doorkeeperref12_Few.calls k _ _ l0 true _ ?side1 ?side2 A6.out).mono ?_); (case side1 => repeat (first | exact (Kd.C_below HR0.out HB.out) | (with_reducible refine Kd.C_alloc ?_ _) | (with_reducible refine Kd.C_drewN ?_ _) | (with_reducible refine Kd.C_drew ?_))); (case side2 => exact HC0.out); rintro e w' ⟨rfl, ⟨nd, rfl⟩⟩))
        go_meet
        case rel => exact ⟨_, (decide ((a1.size : Int) > 100)), (by first | rfl | (simp; done) | (simp [*]; done)), H', ⟨by first | omega | exact Nat.le_refl _⟩, ⟨by repeat (first | (with_reducible first | exact HB.out | apply below_alloc | apply pw_below_drewN | apply below_drew1) | exact HB.out)⟩⟩
      · replace c7 := Bool.eq_false_iff.mpr c7
        subst c7
        have H1 : (doorkeeperlaw12_ListsMatchReference.j0 k l0 a1 true) = some r := by rw [if_neg (show ¬ (false = true) by decide)] at H; exact H
        clear H
        have H := H1
        clear H1
        have H' := Aside0.mk H
        clear H
        go_wp2_with (first | ((with_reducible refine gate_callee (f := 8) rfl ?_); refine goesL_ (some 9) rfl rfl Tryd.func8 (by kernel_rfl) rfl #[] rfl (by (try simp only [List.map_toArray, List.map_cons, List.map_nil]); first | done | rfl | (simp only [List.length_drop, List.length_take]; rfl)) ?_; (with_reducible refine (doorkeeperlaw12_awake.calls k  true _ A4.out).mono ?_); rintro e w9 ⟨rfl, hb⟩; refine ⟨_, rfl, ?_⟩; have n0_ := Aside0.mk (below_step (by repeat (first | (with_reducible first | exact HB.out | apply below_alloc | apply pw_below_drewN | apply below_drew1) | exact HB.out)) hb); clear HB; have HB := n0_; clear n0_; (try clear hb); (try clear hb2); (try clear hk); (try clear hi)) | (go_at_call 9; (with_reducible refine (doorkeeperref12_Few.calls k _ _ l0 false _ ?side1 ?side2 A6.out).mono ?_); (case side1 => repeat (first | exact (Kd.C_below HR0.out HB.out) | (with_reducible refine Kd.C_alloc ?_ _) | (with_reducible refine Kd.C_drewN ?_ _) | (with_reducible refine Kd.C_drew ?_))); (case side2 => exact HC0.out); rintro e w' ⟨rfl, ⟨nd, rfl⟩⟩))
        go_meet
        case rel => exact ⟨_, (true), (by first | rfl | (simp; done) | (simp [*]; done)), H', ⟨by first | omega | exact Nat.le_refl _⟩, ⟨by repeat (first | (with_reducible first | exact HB.out | apply below_alloc | apply pw_below_drewN | apply below_drew1) | exact HB.out)⟩⟩
    · replace c5 := Bool.eq_false_iff.mpr c5
      subst c5
      have H1 : (doorkeeperlaw12_ListsMatchReference.j0 k l0 a1 true) = some r := by rw [if_neg (show ¬ (false = true) by decide)] at H; exact H
      clear H
      have H := H1
      clear H1
      have H' := Aside0.mk H
      clear H
      go_wp2_with (first | ((with_reducible refine gate_callee (f := 8) rfl ?_); refine goesL_ (some 9) rfl rfl Tryd.func8 (by kernel_rfl) rfl #[] rfl (by (try simp only [List.map_toArray, List.map_cons, List.map_nil]); first | done | rfl | (simp only [List.length_drop, List.length_take]; rfl)) ?_; (with_reducible refine (doorkeeperlaw12_awake.calls k  false _ A4.out).mono ?_); rintro e w10 ⟨rfl, hb⟩; refine ⟨_, rfl, ?_⟩; have n0_ := Aside0.mk (below_step (by repeat (first | (with_reducible first | exact HB.out | apply below_alloc | apply pw_below_drewN | apply below_drew1) | exact HB.out)) hb); clear HB; have HB := n0_; clear n0_; (try clear hb); (try clear hb2); (try clear hk); (try clear hi)))
      go_meet
      case rel => exact ⟨_, (true), (by first | rfl | (simp; done) | (simp [*]; done)), H', ⟨by first | omega | exact Nat.le_refl _⟩, ⟨by repeat (first | (with_reducible first | exact HB.out | apply below_alloc | apply pw_below_drewN | apply below_drew1) | exact HB.out)⟩⟩
  case rest =>
    clear HC3
    try clear p2
    try clear c3
    try clear c5
    try clear c7
    try clear c8
    obtain ⟨kq, x20_2, rfl, HA, HJ2, HB⟩ := hcut
    cases kq with
    | zero => exact absurd HA.out (by simp [doorkeeperlaw12_ListsMatchReference.j0])
    | succ kj2 =>
      have H := HA.out
      clear HA
      simp only [doorkeeperlaw12_ListsMatchReference.j0] at H
      by_cases c11 : x20_2 = true
      · subst c11
        have H1 : ((doorkeeperlaw12_awake.f kj2).bind fun t185 => (some t185)) = some r := by rw [if_pos rfl] at H; exact H
        clear H
        have H := H1
        clear H1
        replace H := Option.bind_eq_some_iff.mp H
        obtain ⟨t185, A120, H⟩ := H
        replace H : (some t185) = some r := H
        have A12 := Aside0.mk A120
        clear A120
        obtain rfl := Option.some.inj H
        go_wp2_with (first | ((with_reducible refine gate_callee (f := 8) rfl ?_); refine goesL_ (some 21) rfl rfl Tryd.func8 (by kernel_rfl) rfl #[] rfl (by (try simp only [List.map_toArray, List.map_cons, List.map_nil]); first | done | rfl | (simp only [List.length_drop, List.length_take]; rfl)) ?_; (with_reducible refine (doorkeeperlaw12_awake.calls kj2  t185 _ A12.out).mono ?_); rintro e w13 ⟨rfl, hb⟩; refine ⟨_, rfl, ?_⟩; have n0_ := Aside0.mk (below_step (by repeat (first | (with_reducible first | exact HB.out | apply below_alloc | apply pw_below_drewN | apply below_drew1) | exact HB.out)) hb); clear HB; have HB := n0_; clear n0_; (try clear hb); (try clear hb2); (try clear hk); (try clear hi)))
        go_ret
        exact ⟨by first | rfl | (simp [errW_none, errW_some] <;> rfl) | (simp [*, errW_none, errW_some] <;> rfl), by repeat (first | (with_reducible first | exact HB.out | apply below_alloc | apply pw_below_drewN | apply below_drew1) | exact HB.out)⟩
      · replace c11 := Bool.eq_false_iff.mpr c11
        subst c11
        have H1 : ((lists_Tokens.f l0).bind fun bt186 => ((doorkeeperref12_Tokens.f kj2 l0).bind fun bt190 => (if (bt186.2 != bt190.2) = true then (doorkeeperlaw12_ListsMatchReference.j1 kj2 l0 a1 true) else ((doorkeeperref09_Texts.f kj2 bt186.1 bt190.1).bind fun t194 => (if t194 = true then (if bt186.2 = true then (doorkeeperlaw12_ListsMatchReference.j1 kj2 l0 a1 false) else (doorkeeperlaw12_ListsMatchReference.j1 kj2 l0 a1 ((bt186.1.length : Int) != 0))) else (if bt190.2 = true then (doorkeeperlaw12_ListsMatchReference.j1 kj2 l0 a1 true) else (if bt186.2 = true then (doorkeeperlaw12_ListsMatchReference.j1 kj2 l0 a1 false) else (doorkeeperlaw12_ListsMatchReference.j1 kj2 l0 a1 ((bt186.1.length : Int) != 0))))))))) = some r := by rw [if_neg (show ¬ (false = true) by decide)] at H; exact H
        clear H
        have H := H1
        clear H1
        replace H := Option.bind_eq_some_iff.mp H
        obtain ⟨⟨t186, t187⟩, A140, H⟩ := H
        replace H : ((doorkeeperref12_Tokens.f kj2 l0).bind fun bt190 => (if (t187 != bt190.2) = true then (doorkeeperlaw12_ListsMatchReference.j1 kj2 l0 a1 true) else ((doorkeeperref09_Texts.f kj2 t186 bt190.1).bind fun t194 => (if t194 = true then (if t187 = true then (doorkeeperlaw12_ListsMatchReference.j1 kj2 l0 a1 false) else (doorkeeperlaw12_ListsMatchReference.j1 kj2 l0 a1 ((t186.length : Int) != 0))) else (if bt190.2 = true then (doorkeeperlaw12_ListsMatchReference.j1 kj2 l0 a1 true) else (if t187 = true then (doorkeeperlaw12_ListsMatchReference.j1 kj2 l0 a1 false) else (doorkeeperlaw12_ListsMatchReference.j1 kj2 l0 a1 ((t186.length : Int) != 0)))))))) = some r := H
        have A14 := Aside0.mk A140
        clear A140
        replace H := Option.bind_eq_some_iff.mp H
        obtain ⟨⟨t190, t191⟩, A150, H⟩ := H
        replace H : (if (t187 != t191) = true then (doorkeeperlaw12_ListsMatchReference.j1 kj2 l0 a1 true) else ((doorkeeperref09_Texts.f kj2 t186 t190).bind fun t194 => (if t194 = true then (if t187 = true then (doorkeeperlaw12_ListsMatchReference.j1 kj2 l0 a1 false) else (doorkeeperlaw12_ListsMatchReference.j1 kj2 l0 a1 ((t186.length : Int) != 0))) else (if t191 = true then (doorkeeperlaw12_ListsMatchReference.j1 kj2 l0 a1 true) else (if t187 = true then (doorkeeperlaw12_ListsMatchReference.j1 kj2 l0 a1 false) else (doorkeeperlaw12_ListsMatchReference.j1 kj2 l0 a1 ((t186.length : Int) != 0))))))) = some r := H
        have A15 := Aside0.mk A150
        clear A150
        have HC16 := Aside0.mk H
        clear H
        go_upto_region 5 with (first | ((with_reducible refine gate_callee (f := 10) rfl ?_); refine goesL_ (some 24) rfl rfl Tryd.func10 (by kernel_rfl) rfl #[.slice A0 l0.length c0] rfl (by (try simp only [List.map_toArray, List.map_cons, List.map_nil]); first | done | rfl | (simp only [List.length_drop, List.length_take]; rfl)) ?_; (with_reducible refine (lists_Tokens.calls _ _ l0 t186 t187 _ ?side1 ?side2 A14.out).mono ?_); (case side1 => repeat (first | exact (Kd.C_below HR0.out HB.out) | (with_reducible refine Kd.C_alloc ?_ _) | (with_reducible refine Kd.C_drewN ?_ _) | (with_reducible refine Kd.C_drew ?_))); (case side2 => exact HC0.out); rintro e w17 ⟨v188, rfl, ho0, hb⟩; refine ⟨_, rfl, ?_⟩; have n0_ := Aside0.mk (Kd.R_lower ho0 (below_size (by repeat (first | (with_reducible first | exact HB.out | apply below_alloc | apply pw_below_drewN | apply below_drew1) | exact HB.out)))); have n1_ := Aside0.mk (below_step (by repeat (first | (with_reducible first | exact HB.out | apply below_alloc | apply pw_below_drewN | apply below_drew1) | exact HB.out)) hb); clear HB; have HO189 := n0_; have HB := n1_; clear n0_ n1_; (try clear hb); (try clear hb2); (try clear hk); (try clear hi); (try clear ho0)) | ((with_reducible refine gate_callee (f := 11) rfl ?_); refine goesL_ (some 29) rfl rfl Tryd.func11 (by kernel_rfl) rfl #[.slice A0 l0.length c0] rfl (by (try simp only [List.map_toArray, List.map_cons, List.map_nil]); first | done | rfl | (simp only [List.length_drop, List.length_take]; rfl)) ?_; (with_reducible refine (doorkeeperref12_Tokens.calls kj2 _ _ l0 t190 t191 _ ?side1 ?side2 A15.out).mono ?_); (case side1 => repeat (first | exact (Kd.C_below HR0.out HB.out) | (with_reducible refine Kd.C_alloc ?_ _) | (with_reducible refine Kd.C_drewN ?_ _) | (with_reducible refine Kd.C_drew ?_))); (case side2 => exact HC0.out); rintro e w18 ⟨v192, rfl, ho0, hb⟩; refine ⟨_, rfl, ?_⟩; have n0_ := Aside0.mk (Kd.R_elder' (by (with_reducible repeat (first | apply Kd.R_alloc | apply Kd.R_drewN | apply Kd.R_drew)); exact HO189.out) (Kd.R_base ho0) hb); have n1_ := Aside0.mk (Kd.R_lower (Kd.R_new' ho0 (Kd.R_lt (by (with_reducible repeat (first | apply Kd.R_alloc | apply Kd.R_drewN | apply Kd.R_drew)); exact HO189.out))) (below_size (by repeat (first | (with_reducible first | exact HB.out | apply below_alloc | apply pw_below_drewN | apply below_drew1) | exact HB.out)))); have n2_ := Aside0.mk (below_step (by repeat (first | (with_reducible first | exact HB.out | apply below_alloc | apply pw_below_drewN | apply below_drew1) | exact HB.out)) hb); clear HO189; clear HB; have HO189 := n0_; have HO193 := n1_; have HB := n2_; clear n0_ n1_ n2_; (try clear hb); (try clear hb2); (try clear hk); (try clear hi); (try clear ho0)))
        (try simp only [Act.put, List.setIfInBounds_toArray, List.set_cons_zero, List.set_cons_succ])
        go_cut [52] (fun v52 wc => ∃ (kq : Nat) (x52_15 : Bool), v52 = .bool x52_15 ∧ Aside0 (doorkeeperlaw12_ListsMatchReference.j1 kq l0 a1 x52_15 = some r) ∧ Aside0 (kq ≤ kj2) ∧ Aside0 (Below w.heap.size w wc))
        case first =>
          have H := HC16.out
          clear HC16
          by_cases c19 : (t187 != t191) = true
          · rw [if_pos c19] at H
            have c19b0 : (t187 != t191) = true := c19
            (try (have c19b1 : decide (t187 = t191) = false := by simpa using c19))
            (try (have c19b2 : (t187 == t191) = false := by simpa using c19))
            (try (have c19b3 : ¬ (t187 = t191) := by simpa using c19))
            clear c19
            (first | rw [c19b0] | (simp only [i64_w, i32_w]; rw [c19b0]) | skip)
            have H' := Aside0.mk H
            clear H
            go_wp2
            go_meet
            case rel => exact ⟨_, (true), (by first | rfl | (simp; done) | (simp [*]; done)), H', ⟨by have := HJ2.out; first | omega | exact Nat.le_refl _⟩, ⟨by repeat (first | (with_reducible first | exact HB.out | apply below_alloc | apply pw_below_drewN | apply below_drew1) | exact HB.out)⟩⟩
          · rw [if_neg c19] at H
            have c19b0 : (t187 != t191) = false := by simpa using c19
            (try (have c19b1 : decide (t187 = t191) = true := by simpa using c19))
            (try (have c19b2 : (t187 == t191) = true := by simpa using c19))
            clear c19
            (first | rw [c19b0] | (simp only [i64_w, i32_w]; rw [c19b0]) | skip)
            replace H := Option.bind_eq_some_iff.mp H
            obtain ⟨t194, A200, H⟩ := H
            replace H : (if t194 = true then (if t187 = true then (doorkeeperlaw12_ListsMatchReference.j1 kj2 l0 a1 false) else (doorkeeperlaw12_ListsMatchReference.j1 kj2 l0 a1 ((t186.length : Int) != 0))) else (if t191 = true then (doorkeeperlaw12_ListsMatchReference.j1 kj2 l0 a1 true) else (if t187 = true then (doorkeeperlaw12_ListsMatchReference.j1 kj2 l0 a1 false) else (doorkeeperlaw12_ListsMatchReference.j1 kj2 l0 a1 ((t186.length : Int) != 0))))) = some r := H
            have A20 := Aside0.mk A200
            clear A200
            by_cases c21 : t194 = true
            · subst c21
              have H1 : (if t187 = true then (doorkeeperlaw12_ListsMatchReference.j1 kj2 l0 a1 false) else (doorkeeperlaw12_ListsMatchReference.j1 kj2 l0 a1 ((t186.length : Int) != 0))) = some r := by rw [if_pos rfl] at H; exact H
              clear H
              have H := H1
              clear H1
              by_cases c22 : t187 = true
              · subst c22
                have H1 : (doorkeeperlaw12_ListsMatchReference.j1 kj2 l0 a1 false) = some r := by rw [if_pos rfl] at H; exact H
                clear H
                have H := H1
                clear H1
                have H' := Aside0.mk H
                clear H
                obtain ⟨Ao23, co23, eo23⟩ := Kd.R_slice HO189.out
                subst eo23
                obtain ⟨Ao24, co24, eo24⟩ := Kd.R_slice HO193.out
                subst eo24
                go_wp2_with (first | (go_at_call 12; (with_reducible refine (doorkeeperref09_Texts.calls kj2 _ _ t186 _ _ t190 true _ ?side1 ?side2 ?side3 ?side4 A20.out).mono ?_); (case side1 => repeat (first | exact (Kd.R_reads' HO189.out).2.2 | (with_reducible refine Kd.C_alloc ?_ _) | (with_reducible refine Kd.C_drewN ?_ _) | (with_reducible refine Kd.C_drew ?_))); (case side2 => exact (Kd.R_reads' HO189.out).2.1); (case side3 => repeat (first | exact (Kd.R_reads' HO193.out).2.2 | (with_reducible refine Kd.C_alloc ?_ _) | (with_reducible refine Kd.C_drewN ?_ _) | (with_reducible refine Kd.C_drew ?_))); (case side4 => exact (Kd.R_reads' HO193.out).2.1); rintro e w' ⟨rfl, ⟨nd, rfl⟩⟩))
                go_meet
                case rel => exact ⟨_, (false), (by first | rfl | (simp; done) | (simp [*]; done)), H', ⟨by have := HJ2.out; first | omega | exact Nat.le_refl _⟩, ⟨by repeat (first | (with_reducible first | exact HB.out | apply below_alloc | apply pw_below_drewN | apply below_drew1) | exact HB.out)⟩⟩
              · replace c22 := Bool.eq_false_iff.mpr c22
                subst c22
                have H1 : (doorkeeperlaw12_ListsMatchReference.j1 kj2 l0 a1 ((t186.length : Int) != 0)) = some r := by rw [if_neg (show ¬ (false = true) by decide)] at H; exact H
                clear H
                have H := H1
                clear H1
                have H' := Aside0.mk H
                clear H
                obtain ⟨Ao25, co25, eo25⟩ := Kd.R_slice HO189.out
                subst eo25
                obtain ⟨Ao26, co26, eo26⟩ := Kd.R_slice HO193.out
                subst eo26
                go_wp2_with (first | (go_at_call 12; (with_reducible refine (doorkeeperref09_Texts.calls kj2 _ _ t186 _ _ t190 true _ ?side1 ?side2 ?side3 ?side4 A20.out).mono ?_); (case side1 => repeat (first | exact (Kd.R_reads' HO189.out).2.2 | (with_reducible refine Kd.C_alloc ?_ _) | (with_reducible refine Kd.C_drewN ?_ _) | (with_reducible refine Kd.C_drew ?_))); (case side2 => exact (Kd.R_reads' HO189.out).2.1); (case side3 => repeat (first | exact (Kd.R_reads' HO193.out).2.2 | (with_reducible refine Kd.C_alloc ?_ _) | (with_reducible refine Kd.C_drewN ?_ _) | (with_reducible refine Kd.C_drew ?_))); (case side4 => exact (Kd.R_reads' HO193.out).2.1); rintro e w' ⟨rfl, ⟨nd, rfl⟩⟩))
                go_meet
                case rel => exact ⟨_, (((t186.length : Int) != 0)), (by first | rfl | (simp; done) | (simp [*]; done)), H', ⟨by have := HJ2.out; first | omega | exact Nat.le_refl _⟩, ⟨by repeat (first | (with_reducible first | exact HB.out | apply below_alloc | apply pw_below_drewN | apply below_drew1) | exact HB.out)⟩⟩
            · replace c21 := Bool.eq_false_iff.mpr c21
              subst c21
              have H1 : (if t191 = true then (doorkeeperlaw12_ListsMatchReference.j1 kj2 l0 a1 true) else (if t187 = true then (doorkeeperlaw12_ListsMatchReference.j1 kj2 l0 a1 false) else (doorkeeperlaw12_ListsMatchReference.j1 kj2 l0 a1 ((t186.length : Int) != 0)))) = some r := by rw [if_neg (show ¬ (false = true) by decide)] at H; exact H
              clear H
              have H := H1
              clear H1
              by_cases c27 : t191 = true
              · subst c27
                have H1 : (doorkeeperlaw12_ListsMatchReference.j1 kj2 l0 a1 true) = some r := by rw [if_pos rfl] at H; exact H
                clear H
                have H := H1
                clear H1
                have H' := Aside0.mk H
                clear H
                obtain ⟨Ao28, co28, eo28⟩ := Kd.R_slice HO189.out
                subst eo28
                obtain ⟨Ao29, co29, eo29⟩ := Kd.R_slice HO193.out
                subst eo29
                go_wp2_with (first | (go_at_call 12; (with_reducible refine (doorkeeperref09_Texts.calls kj2 _ _ t186 _ _ t190 false _ ?side1 ?side2 ?side3 ?side4 A20.out).mono ?_); (case side1 => repeat (first | exact (Kd.R_reads' HO189.out).2.2 | (with_reducible refine Kd.C_alloc ?_ _) | (with_reducible refine Kd.C_drewN ?_ _) | (with_reducible refine Kd.C_drew ?_))); (case side2 => exact (Kd.R_reads' HO189.out).2.1); (case side3 => repeat (first | exact (Kd.R_reads' HO193.out).2.2 | (with_reducible refine Kd.C_alloc ?_ _) | (with_reducible refine Kd.C_drewN ?_ _) | (with_reducible refine Kd.C_drew ?_))); (case side4 => exact (Kd.R_reads' HO193.out).2.1); rintro e w' ⟨rfl, ⟨nd, rfl⟩⟩))
                go_meet
                case rel => exact ⟨_, (true), (by first | rfl | (simp; done) | (simp [*]; done)), H', ⟨by have := HJ2.out; first | omega | exact Nat.le_refl _⟩, ⟨by repeat (first | (with_reducible first | exact HB.out | apply below_alloc | apply pw_below_drewN | apply below_drew1) | exact HB.out)⟩⟩
              · replace c27 := Bool.eq_false_iff.mpr c27
                subst c27
                have H1 : (if t187 = true then (doorkeeperlaw12_ListsMatchReference.j1 kj2 l0 a1 false) else (doorkeeperlaw12_ListsMatchReference.j1 kj2 l0 a1 ((t186.length : Int) != 0))) = some r := by rw [if_neg (show ¬ (false = true) by decide)] at H; exact H
                clear H
                have H := H1
                clear H1
                by_cases c30 : t187 = true
                · subst c30
                  have H1 : (doorkeeperlaw12_ListsMatchReference.j1 kj2 l0 a1 false) = some r := by rw [if_pos rfl] at H; exact H
                  clear H
                  have H := H1
                  clear H1
                  have H' := Aside0.mk H
                  clear H
                  obtain ⟨Ao31, co31, eo31⟩ := Kd.R_slice HO189.out
                  subst eo31
                  obtain ⟨Ao32, co32, eo32⟩ := Kd.R_slice HO193.out
                  subst eo32
                  go_wp2_with (first | (go_at_call 12; (with_reducible refine (doorkeeperref09_Texts.calls kj2 _ _ t186 _ _ t190 false _ ?side1 ?side2 ?side3 ?side4 A20.out).mono ?_); (case side1 => repeat (first | exact (Kd.R_reads' HO189.out).2.2 | (with_reducible refine Kd.C_alloc ?_ _) | (with_reducible refine Kd.C_drewN ?_ _) | (with_reducible refine Kd.C_drew ?_))); (case side2 => exact (Kd.R_reads' HO189.out).2.1); (case side3 => repeat (first | exact (Kd.R_reads' HO193.out).2.2 | (with_reducible refine Kd.C_alloc ?_ _) | (with_reducible refine Kd.C_drewN ?_ _) | (with_reducible refine Kd.C_drew ?_))); (case side4 => exact (Kd.R_reads' HO193.out).2.1); rintro e w' ⟨rfl, ⟨nd, rfl⟩⟩))
                  go_meet
                  case rel => exact ⟨_, (false), (by first | rfl | (simp; done) | (simp [*]; done)), H', ⟨by have := HJ2.out; first | omega | exact Nat.le_refl _⟩, ⟨by repeat (first | (with_reducible first | exact HB.out | apply below_alloc | apply pw_below_drewN | apply below_drew1) | exact HB.out)⟩⟩
                · replace c30 := Bool.eq_false_iff.mpr c30
                  subst c30
                  have H1 : (doorkeeperlaw12_ListsMatchReference.j1 kj2 l0 a1 ((t186.length : Int) != 0)) = some r := by rw [if_neg (show ¬ (false = true) by decide)] at H; exact H
                  clear H
                  have H := H1
                  clear H1
                  have H' := Aside0.mk H
                  clear H
                  obtain ⟨Ao33, co33, eo33⟩ := Kd.R_slice HO189.out
                  subst eo33
                  obtain ⟨Ao34, co34, eo34⟩ := Kd.R_slice HO193.out
                  subst eo34
                  go_wp2_with (first | (go_at_call 12; (with_reducible refine (doorkeeperref09_Texts.calls kj2 _ _ t186 _ _ t190 false _ ?side1 ?side2 ?side3 ?side4 A20.out).mono ?_); (case side1 => repeat (first | exact (Kd.R_reads' HO189.out).2.2 | (with_reducible refine Kd.C_alloc ?_ _) | (with_reducible refine Kd.C_drewN ?_ _) | (with_reducible refine Kd.C_drew ?_))); (case side2 => exact (Kd.R_reads' HO189.out).2.1); (case side3 => repeat (first | exact (Kd.R_reads' HO193.out).2.2 | (with_reducible refine Kd.C_alloc ?_ _) | (with_reducible refine Kd.C_drewN ?_ _) | (with_reducible refine Kd.C_drew ?_))); (case side4 => exact (Kd.R_reads' HO193.out).2.1); rintro e w' ⟨rfl, ⟨nd, rfl⟩⟩))
                  go_meet
                  case rel => exact ⟨_, (((t186.length : Int) != 0)), (by first | rfl | (simp; done) | (simp [*]; done)), H', ⟨by have := HJ2.out; first | omega | exact Nat.le_refl _⟩, ⟨by repeat (first | (with_reducible first | exact HB.out | apply below_alloc | apply pw_below_drewN | apply below_drew1) | exact HB.out)⟩⟩
        case rest =>
          clear HC16
          try clear c1
          try clear c2
          try clear p2
          try clear c3
          try clear c5
          try clear c7
          try clear c8
          try clear c10
          try clear c11
          try clear c19
          try clear c19b0
          try clear c19b1
          try clear c19b2
          try clear c21
          try clear c22
          try clear c27
          try clear c30
          try clear p2
          obtain ⟨kq, x52_15, rfl, HA, HJ15, HB⟩ := hcut
          cases kq with
          | zero => exact absurd HA.out (by simp [doorkeeperlaw12_ListsMatchReference.j1])
          | succ kj15 =>
            have H := HA.out
            clear HA
            simp only [doorkeeperlaw12_ListsMatchReference.j1] at H
            by_cases c35 : x52_15 = true
            · subst c35
              have H1 : (some false) = some r := by rw [if_pos rfl] at H; exact H
              clear H
              have H := H1
              clear H1
              obtain rfl := Option.some.inj H
              go_wp2
              go_ret
              exact ⟨by first | rfl | (simp [errW_none, errW_some] <;> rfl) | (simp [*, errW_none, errW_some] <;> rfl), by repeat (first | (with_reducible first | exact HB.out | apply below_alloc | apply pw_below_drewN | apply below_drew1) | exact HB.out)⟩
            · replace c35 := Bool.eq_false_iff.mpr c35
              subst c35
              have H1 : ((lists_Elements.f l0).bind fun t195 => ((doorkeeperref12_Elements.f kj15 l0).bind fun t198 => ((doorkeeperref09_Texts.f kj15 t195 t198).bind fun t201 => (if t201 = true then ((lists_Has.f a1 l0).bind fun t202 => ((doorkeeperref12_Has.f kj15 a1 l0).bind fun t203 => (some (t202 == t203)))) else (some false))))) = some r := by rw [if_neg (show ¬ (false = true) by decide)] at H; exact H
              clear H
              have H := H1
              clear H1
              replace H := Option.bind_eq_some_iff.mp H
              obtain ⟨t195, A360, H⟩ := H
              replace H : ((doorkeeperref12_Elements.f kj15 l0).bind fun t198 => ((doorkeeperref09_Texts.f kj15 t195 t198).bind fun t201 => (if t201 = true then ((lists_Has.f a1 l0).bind fun t202 => ((doorkeeperref12_Has.f kj15 a1 l0).bind fun t203 => (some (t202 == t203)))) else (some false)))) = some r := H
              have A36 := Aside0.mk A360
              clear A360
              replace H := Option.bind_eq_some_iff.mp H
              obtain ⟨t198, A370, H⟩ := H
              replace H : ((doorkeeperref09_Texts.f kj15 t195 t198).bind fun t201 => (if t201 = true then ((lists_Has.f a1 l0).bind fun t202 => ((doorkeeperref12_Has.f kj15 a1 l0).bind fun t203 => (some (t202 == t203)))) else (some false))) = some r := H
              have A37 := Aside0.mk A370
              clear A370
              replace H := Option.bind_eq_some_iff.mp H
              obtain ⟨t201, A380, H⟩ := H
              replace H : (if t201 = true then ((lists_Has.f a1 l0).bind fun t202 => ((doorkeeperref12_Has.f kj15 a1 l0).bind fun t203 => (some (t202 == t203)))) else (some false)) = some r := H
              have A38 := Aside0.mk A380
              clear A380
              by_cases c39 : t201 = true
              · subst c39
                have H1 : ((lists_Has.f a1 l0).bind fun t202 => ((doorkeeperref12_Has.f kj15 a1 l0).bind fun t203 => (some (t202 == t203)))) = some r := by rw [if_pos rfl] at H; exact H
                clear H
                have H := H1
                clear H1
                replace H := Option.bind_eq_some_iff.mp H
                obtain ⟨t202, A400, H⟩ := H
                replace H : ((doorkeeperref12_Has.f kj15 a1 l0).bind fun t203 => (some (t202 == t203))) = some r := H
                have A40 := Aside0.mk A400
                clear A400
                replace H := Option.bind_eq_some_iff.mp H
                obtain ⟨t203, A410, H⟩ := H
                replace H : (some (t202 == t203)) = some r := H
                have A41 := Aside0.mk A410
                clear A410
                obtain rfl := Option.some.inj H
                go_wp2_with (first | ((with_reducible refine gate_callee (f := 13) rfl ?_); refine goesL_ (some 54) rfl rfl Tryd.func13 (by kernel_rfl) rfl #[.slice A0 l0.length c0] rfl (by (try simp only [List.map_toArray, List.map_cons, List.map_nil]); first | done | rfl | (simp only [List.length_drop, List.length_take]; rfl)) ?_; (with_reducible refine (lists_Elements.calls _ _ l0 t195 _ ?side1 ?side2 A36.out).mono ?_); (case side1 => repeat (first | exact (Kd.C_below HR0.out HB.out) | (with_reducible refine Kd.C_alloc ?_ _) | (with_reducible refine Kd.C_drewN ?_ _) | (with_reducible refine Kd.C_drew ?_))); (case side2 => exact HC0.out); rintro e w42 ⟨v196, rfl, ho0, hb⟩; refine ⟨_, rfl, ?_⟩; have n0_ := Aside0.mk (Kd.R_lower ho0 (below_size (by repeat (first | (with_reducible first | exact HB.out | apply below_alloc | apply pw_below_drewN | apply below_drew1) | exact HB.out)))); have n1_ := Aside0.mk (below_step (by repeat (first | (with_reducible first | exact HB.out | apply below_alloc | apply pw_below_drewN | apply below_drew1) | exact HB.out)) hb); clear HB; have HO197 := n0_; have HB := n1_; clear n0_ n1_; (try clear hb); (try clear hb2); (try clear hk); (try clear hi); (try clear ho0)) | ((with_reducible refine gate_callee (f := 14) rfl ?_); refine goesL_ (some 56) rfl rfl Tryd.func14 (by kernel_rfl) rfl #[.slice A0 l0.length c0] rfl (by (try simp only [List.map_toArray, List.map_cons, List.map_nil]); first | done | rfl | (simp only [List.length_drop, List.length_take]; rfl)) ?_; (with_reducible refine (doorkeeperref12_Elements.calls kj15 _ _ l0 t198 _ ?side1 ?side2 A37.out).mono ?_); (case side1 => repeat (first | exact (Kd.C_below HR0.out HB.out) | (with_reducible refine Kd.C_alloc ?_ _) | (with_reducible refine Kd.C_drewN ?_ _) | (with_reducible refine Kd.C_drew ?_))); (case side2 => exact HC0.out); rintro e w43 ⟨v199, rfl, ho0, hb⟩; refine ⟨_, rfl, ?_⟩; have n0_ := Aside0.mk (Kd.R_elder' (by (with_reducible repeat (first | apply Kd.R_alloc | apply Kd.R_drewN | apply Kd.R_drew)); exact HO197.out) (Kd.R_base ho0) hb); have n1_ := Aside0.mk (Kd.R_lower (Kd.R_new' ho0 (Kd.R_lt (by (with_reducible repeat (first | apply Kd.R_alloc | apply Kd.R_drewN | apply Kd.R_drew)); exact HO197.out))) (below_size (by repeat (first | (with_reducible first | exact HB.out | apply below_alloc | apply pw_below_drewN | apply below_drew1) | exact HB.out)))); have n2_ := Aside0.mk (below_step (by repeat (first | (with_reducible first | exact HB.out | apply below_alloc | apply pw_below_drewN | apply below_drew1) | exact HB.out)) hb); clear HO197; clear HB; have HO197 := n0_; have HO200 := n1_; have HB := n2_; clear n0_ n1_ n2_; (try clear hb); (try clear hb2); (try clear hk); (try clear hi); (try clear ho0); obtain ⟨Ao44, co44, eo44⟩ := Kd.R_slice HO197.out; subst eo44; obtain ⟨Ao45, co45, eo45⟩ := Kd.R_slice HO200.out; subst eo45) | ((with_reducible refine gate_callee (f := 12) rfl ?_); refine goesL_ (some 57) rfl rfl Tryd.func12 (by kernel_rfl) rfl #[.slice Ao44 t195.length co44, .slice Ao45 t198.length co45] rfl (by (try simp only [List.map_toArray, List.map_cons, List.map_nil]); first | done | rfl | (simp only [List.length_drop, List.length_take]; rfl)) ?_; (with_reducible refine (doorkeeperref09_Texts.calls kj15 _ _ t195 _ _ t198 true _ ?side1 ?side2 ?side3 ?side4 A38.out).mono ?_); (case side1 => repeat (first | exact (Kd.R_reads' HO197.out).2.2 | (with_reducible refine Kd.C_alloc ?_ _) | (with_reducible refine Kd.C_drewN ?_ _) | (with_reducible refine Kd.C_drew ?_))); (case side2 => exact (Kd.R_reads' HO197.out).2.1); (case side3 => repeat (first | exact (Kd.R_reads' HO200.out).2.2 | (with_reducible refine Kd.C_alloc ?_ _) | (with_reducible refine Kd.C_drewN ?_ _) | (with_reducible refine Kd.C_drew ?_))); (case side4 => exact (Kd.R_reads' HO200.out).2.1); rintro e w' ⟨rfl, ⟨nd, rfl⟩⟩; refine ⟨_, rfl, ?_⟩) | (go_at_call 15; (with_reducible refine (lists_Has.calls a1 _ _ l0 t202 _ ?side1 ?side2 A40.out).mono ?_); (case side1 => repeat (first | exact (Kd.C_below HR0.out (by repeat (first | (with_reducible first | exact HB.out | apply below_alloc | apply pw_below_drewN | apply below_drew1) | exact HB.out))) | (with_reducible refine Kd.C_alloc ?_ _) | (with_reducible refine Kd.C_drewN ?_ _) | (with_reducible refine Kd.C_drew ?_))); (case side2 => exact HC0.out); rintro e w46 ⟨rfl, hb⟩; have n0_ := Aside0.mk (Kd.R_below (by (with_reducible repeat (first | apply Kd.R_alloc | apply Kd.R_drewN | apply Kd.R_drew)); exact HO197.out) hb); have n1_ := Aside0.mk (Kd.R_below (by (with_reducible repeat (first | apply Kd.R_alloc | apply Kd.R_drewN | apply Kd.R_drew)); exact HO200.out) hb); have n2_ := Aside0.mk (below_step (by repeat (first | (with_reducible first | exact HB.out | apply below_alloc | apply pw_below_drewN | apply below_drew1) | exact HB.out)) hb); clear HO197; clear HO200; clear HB; have HO197 := n0_; have HO200 := n1_; have HB := n2_; clear n0_ n1_ n2_; (try clear hb); (try clear hb2); (try clear hk); (try clear hi)) | (go_at_call 16; (with_reducible refine (doorkeeperref12_Has.calls kj15 a1 _ _ l0 t203 _ ?side1 ?side2 A41.out).mono ?_); (case side1 => repeat (first | exact (Kd.C_below HR0.out HB.out) | (with_reducible refine Kd.C_alloc ?_ _) | (with_reducible refine Kd.C_drewN ?_ _) | (with_reducible refine Kd.C_drew ?_))); (case side2 => exact HC0.out); rintro e w47 ⟨rfl, hb⟩; have n0_ := Aside0.mk (Kd.R_below (by (with_reducible repeat (first | apply Kd.R_alloc | apply Kd.R_drewN | apply Kd.R_drew)); exact HO197.out) hb); have n1_ := Aside0.mk (Kd.R_below (by (with_reducible repeat (first | apply Kd.R_alloc | apply Kd.R_drewN | apply Kd.R_drew)); exact HO200.out) hb); have n2_ := Aside0.mk (below_step (by repeat (first | (with_reducible first | exact HB.out | apply below_alloc | apply pw_below_drewN | apply below_drew1) | exact HB.out)) hb); clear HO197; clear HO200; clear HB; have HO197 := n0_; have HO200 := n1_; have HB := n2_; clear n0_ n1_ n2_; (try clear hb); (try clear hb2); (try clear hk); (try clear hi)))
                go_ret
                exact ⟨by first | rfl | (simp [errW_none, errW_some] <;> rfl) | (simp [*, errW_none, errW_some] <;> rfl), by repeat (first | (with_reducible first | exact HB.out | apply below_alloc | apply pw_below_drewN | apply below_drew1) | exact HB.out)⟩
              · replace c39 := Bool.eq_false_iff.mpr c39
                subst c39
                have H1 : (some false) = some r := by rw [if_neg (show ¬ (false = true) by decide)] at H; exact H
                clear H
                have H := H1
                clear H1
                obtain rfl := Option.some.inj H
                go_wp2_with (first | ((with_reducible refine gate_callee (f := 13) rfl ?_); refine goesL_ (some 54) rfl rfl Tryd.func13 (by kernel_rfl) rfl #[.slice A0 l0.length c0] rfl (by (try simp only [List.map_toArray, List.map_cons, List.map_nil]); first | done | rfl | (simp only [List.length_drop, List.length_take]; rfl)) ?_; (with_reducible refine (lists_Elements.calls _ _ l0 t195 _ ?side1 ?side2 A36.out).mono ?_); (case side1 => repeat (first | exact (Kd.C_below HR0.out HB.out) | (with_reducible refine Kd.C_alloc ?_ _) | (with_reducible refine Kd.C_drewN ?_ _) | (with_reducible refine Kd.C_drew ?_))); (case side2 => exact HC0.out); rintro e w48 ⟨v196, rfl, ho0, hb⟩; refine ⟨_, rfl, ?_⟩; have n0_ := Aside0.mk (Kd.R_lower ho0 (below_size (by repeat (first | (with_reducible first | exact HB.out | apply below_alloc | apply pw_below_drewN | apply below_drew1) | exact HB.out)))); have n1_ := Aside0.mk (below_step (by repeat (first | (with_reducible first | exact HB.out | apply below_alloc | apply pw_below_drewN | apply below_drew1) | exact HB.out)) hb); clear HB; have HO197 := n0_; have HB := n1_; clear n0_ n1_; (try clear hb); (try clear hb2); (try clear hk); (try clear hi); (try clear ho0)) | ((with_reducible refine gate_callee (f := 14) rfl ?_); refine goesL_ (some 56) rfl rfl Tryd.func14 (by kernel_rfl) rfl #[.slice A0 l0.length c0] rfl (by (try simp only [List.map_toArray, List.map_cons, List.map_nil]); first | done | rfl | (simp only [List.length_drop, List.length_take]; rfl)) ?_; (with_reducible refine (doorkeeperref12_Elements.calls kj15 _ _ l0 t198 _ ?side1 ?side2 A37.out).mono ?_); (case side1 => repeat (first | exact (Kd.C_below HR0.out HB.out) | (with_reducible refine Kd.C_alloc ?_ _) | (with_reducible refine Kd.C_drewN ?_ _) | (with_reducible refine Kd.C_drew ?_))); (case side2 => exact HC0.out); rintro e w49 ⟨v199, rfl, ho0, hb⟩; refine ⟨_, rfl, ?_⟩; have n0_ := Aside0.mk (Kd.R_elder' (by (with_reducible repeat (first | apply Kd.R_alloc | apply Kd.R_drewN | apply Kd.R_drew)); exact HO197.out) (Kd.R_base ho0) hb); have n1_ := Aside0.mk (Kd.R_lower (Kd.R_new' ho0 (Kd.R_lt (by (with_reducible repeat (first | apply Kd.R_alloc | apply Kd.R_drewN | apply Kd.R_drew)); exact HO197.out))) (below_size (by repeat (first | (with_reducible first | exact HB.out | apply below_alloc | apply pw_below_drewN | apply below_drew1) | exact HB.out)))); have n2_ := Aside0.mk (below_step (by repeat (first | (with_reducible first | exact HB.out | apply below_alloc | apply pw_below_drewN | apply below_drew1) | exact HB.out)) hb); clear HO197; clear HB; have HO197 := n0_; have HO200 := n1_; have HB := n2_; clear n0_ n1_ n2_; (try clear hb); (try clear hb2); (try clear hk); (try clear hi); (try clear ho0); obtain ⟨Ao50, co50, eo50⟩ := Kd.R_slice HO197.out; subst eo50; obtain ⟨Ao51, co51, eo51⟩ := Kd.R_slice HO200.out; subst eo51) | ((with_reducible refine gate_callee (f := 12) rfl ?_); refine goesL_ (some 57) rfl rfl Tryd.func12 (by kernel_rfl) rfl #[.slice Ao50 t195.length co50, .slice Ao51 t198.length co51] rfl (by (try simp only [List.map_toArray, List.map_cons, List.map_nil]); first | done | rfl | (simp only [List.length_drop, List.length_take]; rfl)) ?_; (with_reducible refine (doorkeeperref09_Texts.calls kj15 _ _ t195 _ _ t198 false _ ?side1 ?side2 ?side3 ?side4 A38.out).mono ?_); (case side1 => repeat (first | exact (Kd.R_reads' HO197.out).2.2 | (with_reducible refine Kd.C_alloc ?_ _) | (with_reducible refine Kd.C_drewN ?_ _) | (with_reducible refine Kd.C_drew ?_))); (case side2 => exact (Kd.R_reads' HO197.out).2.1); (case side3 => repeat (first | exact (Kd.R_reads' HO200.out).2.2 | (with_reducible refine Kd.C_alloc ?_ _) | (with_reducible refine Kd.C_drewN ?_ _) | (with_reducible refine Kd.C_drew ?_))); (case side4 => exact (Kd.R_reads' HO200.out).2.1); rintro e w' ⟨rfl, ⟨nd, rfl⟩⟩; refine ⟨_, rfl, ?_⟩))
                go_ret
                exact ⟨by first | rfl | (simp [errW_none, errW_some] <;> rfl) | (simp [*, errW_none, errW_some] <;> rfl), by repeat (first | (with_reducible first | exact HB.out | apply below_alloc | apply pw_below_drewN | apply below_drew1) | exact HB.out)⟩

end Go.Proofs.YthilbpgkhjchcaaDoor.P
end

section
namespace Go.Proofs.YthilbpgkhjchcaaDoor.LPure
open Go Go.RowKit Go.Proofs.YthilbpgkhjchcaaDoorW.PrintWords Go.Proofs.YthilbpgkhjchcaaDoor.PB Go.Proofs.YthilbpgkhjchcaaDoor.P Go.Proofs.YthilbpgkhjchcaaDoor.CRef Go.Proofs.YthilbpgkhjchcaaDoor.LRef Go.Proofs.YthilbpgkhjchcaaDoor.LPlain
open Go.Proofs.YthilbpgkhjchcaaDoor.LSpec (blankL trimL splitL elemsL elemsAll total total_mem total_length elemsAll_append elemsAll_one elemsAll_length splitL_ne)
open Go.Proofs.YthilbpgkhjchcaaDoor.LElems (gives)
open Go.Proofs.YthilbpgkhjchcaaDoor.LTok (toks tokList tokOk hasW)

theorem match_ev (l : List ByteArray) (a : ByteArray) (hn : l.length ≤ 9223372036854775807) : Ev (fun k => doorkeeperlaw12_ListsMatchReference.f k l a) true := by
  have asleep : Ev (fun k => doorkeeperlaw12_ListsMatchReference.j0 k l a true) true :=
    Ev.step (f := fun k => doorkeeperlaw12_ListsMatchReference.j0 (k + 1) l a true) (fun _ => rfl) (by
      simp only [doorkeeperlaw12_ListsMatchReference.j0, if_true]; exact Ev.bind aw_ev (Ev.now true))
  unfold doorkeeperlaw12_ListsMatchReference.f
  refine Ev.bind aw_ev (Ev.congr (fun k => if_pos rfl) (Ev.bind (few_ev l hn) ?_))
  cases hf : fewB l with
  | false => exact Ev.congr (fun k => if_neg (by simp)) asleep
  | true =>
    refine Ev.congr (fun k => if_pos rfl) ?_
    by_cases ha : ((a.size : Int) > 100)
    · exact Ev.congr (fun k => by rw [decide_eq_true ha]) asleep
    · refine Ev.congr (f := fun k => doorkeeperlaw12_ListsMatchReference.j0 k l a false) (fun k => by rw [decide_eq_false ha]) ?_
      have ht : total l ≤ 1099511627776 := by have := few_total hf; omega
      have fin : Ev (fun k => doorkeeperlaw12_ListsMatchReference.j1 k l a false) true := by
        refine Ev.step (f := fun k => doorkeeperlaw12_ListsMatchReference.j1 (k + 1) l a false) (fun _ => rfl) ?_
        simp only [doorkeeperlaw12_ListsMatchReference.j1]
        refine Ev.congr (fun k => if_neg (by simp)) ?_
        simp only [elements_f ht, has_f (w := a) (by omega) ht, Option.bind_some]
        refine Ev.bind (elements_ev l ht) (Ev.bind (texts_ev _ _ (gives_max ht)) ?_)
        refine Ev.congr (fun k => if_pos (by simp)) ?_
        refine Ev.bind (has_ev a (by omega) l ht) ?_
        exact ev_true (by simp) (Ev.now _)
      refine Ev.step (f := fun k => doorkeeperlaw12_ListsMatchReference.j0 (k + 1) l a false) (fun _ => rfl) ?_
      simp only [doorkeeperlaw12_ListsMatchReference.j0]
      refine Ev.congr (fun k => if_neg (by simp)) ?_
      simp only [tokens_f ht, Option.bind_some]
      refine Ev.bind (tokens_ev l ht) ?_
      refine Ev.congr (fun k => if_neg (by simp)) ?_
      have hm : (tokList l).length ≤ 9223372036854775807 := by
        have := gives_max ht
        unfold tokList; split
        · simpa [toks] using this
        · simp
      refine Ev.bind (texts_ev _ _ hm) ?_
      refine Ev.congr (fun k => if_pos (by simp)) ?_
      cases ho : tokOk l with
      | true => exact Ev.congr (fun k => if_pos rfl) fin
      | false =>
        refine Ev.congr (fun k => if_neg (by simp)) ?_
        have he : tokList l = [] := by
          unfold tokList
          unfold tokOk at ho
          split
          · rename_i hh
            rw [hh, Bool.true_and] at ho
            have : gives l = [] := by simpa using ho
            rw [this]; rfl
          · rfl
        refine Ev.congr (f := fun k => doorkeeperlaw12_ListsMatchReference.j1 k l a false) (fun k => ?_) fin
        rw [he]; rfl
theorem ListsMatchReference (l0 : List ByteArray) (hl0 : l0.length ≤ maxLen) (_z0 : ∀ s ∈ l0, s.size ≤ maxLen) (l1 : ByteArray) (_m1 : l1.size ≤ maxLen) : ∃ k, doorkeeperlaw12_ListsMatchReference.f k l0 l1 = some true :=
  (match_ev l0 l1 (Nat.le_trans hl0 max_int)).rounds

end Go.Proofs.YthilbpgkhjchcaaDoor.LPure
end

section
namespace Go.Proofs.YthilbpgkhjchcaaDoor.listsMatchReferenceR
open Go.ChangeShapes Go.WideShapes Go.ChangeAt Go.RowKit
open Go.ChangeMaps (open_string shut_string)
open Go.Proofs.YthilbpgkhjchcaaDoorW.PrintWords
theorem own : ownKnob Tryd.prog.godebug = none := by kernel_rfl
theorem laidOut : laidOutB Tryd.prog = true := by kernel_rfl
theorem strs_C {w : World} {a : Addr} {len : Nat} {ss : List ByteArray} (hl : len ≤ ss.length) (hm : len ≤ maxLen) (hc : ∀ i, i < ss.length → w.cell? (a.add i) = some (.string (ss.getD i ByteArray.empty))) : Kd.C Kd.string w (some a) (ss.take len).length (ss.take len) := by
  have h1 : (ss.take len).length = len := by simp; omega
  unfold maxLen at hm
  refine Kd.C_of_reads (enc := Value.string) (d := ByteArray.empty) (h1 := fun _ => rfl) ⟨rfl, by omega, fun _ => ⟨a, rfl, fun j hj => ?_⟩⟩
  rw [hc j (by omega), List.getD_eq_getElem?_getD, List.getD_eq_getElem?_getD, List.getElem?_take_of_lt (by omega)]
theorem strs_nil (w : World) : Kd.C Kd.string w none ([] : List ByteArray).length [] :=
  Kd.C_of_reads (enc := Value.string) (d := ByteArray.empty) (h1 := fun _ => rfl) ⟨rfl, Nat.zero_le _, fun h => absurd h (Nat.lt_irrefl _)⟩
set_option maxRecDepth 100000 in
theorem lifted (os : Os) (started : os.Started) (H : Type) (enc : TypeId × Value → H) :
    ReturnsInHanded {} Tryd.checked os 3 .any (fun w args => (Rows.listsMatchReferenceSpec.pre enc Tryd.prog Tryd.f3 Rows.listsMatchReferenceRow.domain false w args ∧ laidMetH Tryd.prog Rows.listsMatchReferenceRow.laid w) ∧ sizedMet enc Tryd.prog Tryd.f3 (OpenSpec.ofChange Rows.listsMatchReferenceSpec) false w args)
      (Rows.listsMatchReferenceSpec.post enc Tryd.prog Tryd.f3 false true false false) := by
  refine returnsInHanded_of_change_and (C := Tryd.checked) (X := fun w _ => laidMetH Tryd.prog Rows.listsMatchReferenceRow.laid w) (fun _ _ _ hh h => h.of_heap hh) own started (by kernel_rfl) Tryd.func3
    (ChangeSpec.witness_shaped (enc := enc) (C := Tryd.checked) (os := os) (X := fun w _ => laidMetH Tryd.prog Rows.listsMatchReferenceRow.laid w) false (World.laidAll Tryd.prog os Rows.listsMatchReferenceRow.laid) #[.slice none 0 0, .string ByteArray.empty] 8 (World.laidAll_os _ _ _)
      (World.shaped_of_ZipB (by kernel_rfl) (by kernel_rfl)) (by kernel_rfl) (by kernel_rfl) (by kernel_rfl)
      (by rw [MakeChecks.laidMetH_plain _ _ _ (by kernel_rfl)]; exact laidMet_laidAll _ (by kernel_rfl) (by kernel_rfl))) ?_
  intro W base args ds gs before hval0 hW hcnd hsz0 hL0 _
  have hval : ∀ (j : Nat) t v, Tryd.f3.params[j]? = some t → args[j]? = some v → Value.okWide Tryd.prog W .any base t v := hval0
  have hW' := hW
  obtain ⟨p, q, hA0, hV, rfl, hfz, hnd⟩ := hW
  have hA : DataW.TrodAll enc Tryd.prog W 0 (fun _ => true) true Tryd.f3.params.toList args.toList ds p := hA0
  rw [Tryd.params3] at hA hval
  obtain ⟨v0, vs0, d0, ds0, p0, q0, hargs, rfl, rfl, h0, r0⟩ := trodAll_cons hA
  obtain ⟨v1, vs1, d1, ds1, p1, q1, rfl, rfl, rfl, h1, r1⟩ := trodAll_cons r0
  obtain ⟨rfl, rfl, rfl⟩ := trodAll_nil r1
  obtain rfl : args = #[v0, v1] := by cases args; simp_all
  obtain ⟨rfl, rfl⟩ := trodVars_none hV
  obtain ⟨a0, len0, cap0, rfl⟩ := okWide_slice Tryd.underlying22 (hval 0 22 v0 rfl rfl)
  have k0 := h0
  have lt0 : ∀ x ∈ p0, x.block < W.heap.size := by obtain ⟨m, hm⟩ := k0; exact DataW.trod_lt m _ _ _ hm
  obtain ⟨l0, C0, e0, c0, m0, z0⟩ : ∃ l : List ByteArray, Kd.C Kd.string W a0 l.length l ∧ len0 = l.length ∧ l.length ≤ cap0 ∧ l.length ≤ maxLen ∧ ∀ s ∈ l, s.size ≤ maxLen := by
    obtain ⟨fuel, hf⟩ := h0
    rcases open_strings Tryd.underlying22 Tryd.underlying9 (by kernel_rfl) hf with ⟨hcs, _⟩ | ⟨x, l, c, ss, hcs, _, hl, hm, hz, _, hcell, hws⟩
    · simp [Value.cells] at hcs
      obtain ⟨rfl, rfl, rfl⟩ := hcs
      exact ⟨[], strs_nil W, rfl, Nat.zero_le _, Nat.zero_le _, fun _ h => by cases h⟩
    · simp [Value.cells] at hcs
      obtain ⟨rfl, rfl, rfl⟩ := hcs
      have hlen : len0 ≤ ss.length := by rw [hz]; split <;> omega
      exact ⟨ss.take len0, strs_C hlen (by omega) hcell, by simp; omega, by simp; omega, by simp; omega, fun s hs => hws s (List.mem_of_mem_take hs)⟩
  subst e0
  obtain ⟨l1, rfl, rfl, rfl, m1⟩ := open_string Tryd.underlying9 (hval 1 9 v1 rfl rfl) h1
  clear hA0 hval0 hsz0
  obtain ⟨k, h⟩ := LPure.ListsMatchReference l0 m0 z0 l1 m1
  refine (YthilbpgkhjchcaaDoor.P.doorkeeperlaw12_ListsMatchReference.calls k a0 cap0 l0 l1 true W C0 c0 h).mono fun e W' ⟨he, bel⟩ => ?_
  subst he
  exact ⟨_, rfl, _, _, _, [], _, [], hW', trodAll_mk1 (shut_bool Tryd.underlying4 _), (trodAll_cons_mk (Below.trod laidOut (by kernel_rfl) (of_decide_eq_true (by kernel_rfl)) k0 bel lt0) (trodAll_cons_mk (shut_string Tryd.underlying9 m1) trodAll_mk0)), rfl, bel.frame _, fun h => by cases h⟩
theorem over : Rows.listsMatchReferenceRow.holds Tryd.pinned (OpenSpec.ofChange Rows.listsMatchReferenceSpec) :=
  OpenClaim.holds_of_wide 3 Tryd.f3 rfl rfl rfl rfl rfl rfl rfl ⟨rfl, rfl, rfl, rfl, rfl⟩ rfl rfl rfl rfl rfl (by kernel_rfl) Tryd.func3 (by kernel_rfl)
    (of_decide_eq_true (by kernel_rfl)) (by unfold Func.isWrapper; first | (rw [if_pos (by decide +kernel)]; kernel_rfl) | (rw [if_neg (by decide +kernel)]; exact ⟨rfl, rfl⟩))
    (fun os started H enc _ => lifted os started H enc)
theorem card : Rows.ListsMatchReferenceCardSaid :=
  Claim7.holds_tied_plain_at .later [] [.data, .pinned] true (true, "dcb0d0879613484357ce21162cfc26d3f494fa670794b8404c0d289f9c1f6d68") false over (fun _ h => by cases h) (by kernel_rfl) (fun _ h => by cases h) listsMatchReference_row_tie rfl ⟨rfl, rfl⟩ (by kernel_rfl) rfl
    (fun f fn hf hfn => by
      obtain rfl : f = 3 := Option.some.inj ((show Tryd.prog.funcNamed "doorkeeper/doorkeeperlaw12.ListsMatchReference" = some 3 by kernel_rfl).symm.trans hf) |>.symm
      obtain rfl : fn = Tryd.f3 := (Option.some.inj (Tryd.func3.symm.trans hfn)).symm
      exact ⟨by kernel_rfl, fun j t ht => by
        rw [Tryd.params3] at ht
        have hm : t ∈ [22, 9] := by simpa using Array.mem_of_getElem? ht
        have hall : ([22, 9].all fun u => !Tryd.prog.wantsStandIn u) = true := by kernel_rfl
        exact (show Tryd.prog.wantsStandIn t = false by simpa using List.all_eq_true.1 hall t hm)⟩)
    (by kernel_rfl)
end Go.Proofs.YthilbpgkhjchcaaDoor.listsMatchReferenceR
namespace Go.Proofs.YthilbpgkhjchcaaDoor
/-- The statement, under a short name, for the claim. -/
theorem listsMatchReference_holds : Rows.ListsMatchReferenceCardSaid := listsMatchReferenceR.card
end Go.Proofs.YthilbpgkhjchcaaDoor
end
