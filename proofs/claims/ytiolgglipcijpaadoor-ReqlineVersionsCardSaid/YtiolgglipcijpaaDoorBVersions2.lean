/- Lists of texts, in plain words: the pieces of a text between commas, texts without blanks around them. octet.IsToken and the rule of a target: a text is not empty and all its bytes are of a class. Request lines in plain words: the pieces of a line between spaces, the four rules, the result or the error. errors.As at the two targets of package fault, for an error made by fault.New: both are found. errors.As at the two targets of package fault, for an error made by fault.New: what it leaves. errors.As at the two targets of package fault, for an error made by fault.New: what it leaves. doorkeeperlaw10.wrong at a nil error and at an error made by fault.New: it tells the status and the offset. What package-level variables hold, as a fact of a world. DERIVED: THE SHELF's CONTRACTS AT THIS DUMP, IN PLAIN WORDS (tools/lay-plain.mjs out of 'TrydShelf.lean', which tools/lay-shelf.mjs wrote): THE SAME DECLARATIONS UNDER THE SAME NAMES: 'import', 'namespace', 'open', 'def', 'theorem' AND NOTHING ELSE: no command of the shelf's: FOR A HAND-IN. Each laying: the table of numbers ('.._ren') and one theorem, a field a fact of the dump's own or the kernel's comparison; each contract: ONE APPLICATION. Conditions: none beyond those that each theorem states. -/
import Derived.Lib.Bytealg
import Derived.Lib.IndexBytes
import Derived.Test.YtiolgglipcijpaaDoorBVersions1
import Derived.Test.YtiolgglipcijpaaDoorBVersions0
import Derived.Deep.DeepFit
import Derived.Outline
import Derived.Lib.Hide
import Derived.Lib.SplitLaws
import Derived.Lib.CountLaws
import Derived.Test.YtiolgglipcijpaaDoorProg
import Derived.WalkKit
import Derived.LaidEql
import Derived.Stop.Asserts
import Derived.RowKitTokens
import Derived.Below
import Derived.Shelf.Strings.Builder1
import Derived.Shelf.Strings.Builder2
import Derived.Shelf.Strings.OnBuilder
import Derived.Shelf.Strings.Trim
import Derived.Shelf.Small.Utf8
import Derived.Shelf.Small.Strs
import Derived.Shelf.Small.Wraps
import Derived.Shelf.Strings.BuilderF
import Derived.Shelf.Strings.BuilderK
import Derived.Shelf.Strings.Builder2Cap
import Derived.Shelf.Strings.Search1
import Derived.Shelf.Strings.Search2
import Derived.Shelf.Strings.Search3
import Derived.Shelf.Strings.Cut
import Derived.Shelf.Strings.Count
import Derived.Shelf.LaysM
import Derived.Shelf.Strings.Shaped
import Derived.Shelf.Strings.Prefix
import Derived.Shelf.Strings.Split
import Derived.Shelf.Strings.SplitShaped
import Derived.Shelf.Strings.Runes
import Derived.Shelf.Strings.AsciiSet
import Derived.Shelf.Unicode.DecodeSlow
import Derived.Shelf.Strings.BuilderCap
set_option linter.unusedVariables false
set_option linter.unusedSimpArgs false

section
namespace Go.Proofs.YtiolgglipcijpaaDoor.LSpec
open Go Go.Lib Go.Proofs.YtiolgglipcijpaaDoor.PB

/-- the pieces between the bytes c. -/
def splitL (c : UInt8) : List UInt8 → List (List UInt8)
  | [] => [[]]
  | x :: r => if x = c then [] :: splitL c r else match splitL c r with
    | [] => [[x]]
    | p :: ps => (x :: p) :: ps

theorem splitL_ne (c : UInt8) (l : List UInt8) : splitL c l ≠ [] := by
  cases l with
  | nil => simp [splitL]
  | cons x r => simp only [splitL]; split <;> (try split) <;> simp
theorem splitL_none {c : UInt8} {l : List UInt8} (h : ∀ x ∈ l, x ≠ c) : splitL c l = [l] := by
  induction l with
  | nil => rfl
  | cons x r ih =>
    simp only [splitL]
    rw [if_neg (h x (by simp)), ih (fun y hy => h y (by simp [hy]))]
theorem splitL_hit {c : UInt8} {a b : List UInt8} (h : ∀ x ∈ a, x ≠ c) : splitL c (a ++ c :: b) = a :: splitL c b := by
  induction a with
  | nil => simp [splitL]
  | cons x r ih =>
    simp only [List.cons_append, splitL]
    rw [if_neg (h x (by simp)), ih (fun y hy => h y (by simp [hy]))]
theorem splitL_length (c : UInt8) (l : List UInt8) : (splitL c l).length ≤ l.length + 1 := by
  induction l with
  | nil => simp [splitL]
  | cons x r ih =>
    simp only [splitL]
    split
    · simp; omega
    · split
      · simp
      · rename_i p ps e; rw [e] at ih; simp at ih ⊢; omega

theorem indexByte_spec (l : List UInt8) (c : UInt8) : (indexByte l c = -1 ∧ ∀ x ∈ l, x ≠ c) ∨
    ∃ a b, l = a ++ c :: b ∧ indexByte l c = a.length ∧ ∀ x ∈ a, x ≠ c := by
  induction l with
  | nil => exact .inl ⟨rfl, by simp⟩
  | cons x r ih =>
    by_cases e : x = c
    · exact .inr ⟨[], r, by simp [e], by simp [indexByte, e], by simp⟩
    · rcases ih with ⟨h1, h2⟩ | ⟨a, b, h1, h2, h3⟩
      · exact .inl ⟨by simp [indexByte, e, h1], fun y hy => by
          rcases List.mem_cons.1 hy with rfl | hy
          · exact e
          · exact h2 y hy⟩
      · refine .inr ⟨x :: a, b, by simp [h1], ?_, fun y hy => ?_⟩
        · have : ¬ ((a.length : Int) = -1) := by omega
          simp [indexByte, e, h2, this]
        · rcases List.mem_cons.1 hy with rfl | hy
          · exact e
          · exact h3 y hy

/-- at a text with c at i first: the piece ahead of it; the pieces behind it. -/
theorem split_at {c : UInt8} (s : ByteArray) : (indexByte (toL s) c = -1 ∧ splitL c (toL s) = [toL s]) ∨
    ∃ i : Nat, i < s.size ∧ indexByte (toL s) c = (i : Int) ∧ splitL c (toL s) = toL (s.extract 0 i) :: splitL c (toL (s.extract (i + 1) s.size)) := by
  rcases indexByte_spec (toL s) c with ⟨h1, h2⟩ | ⟨a, b, h1, h2, h3⟩
  · exact .inl ⟨h1, splitL_none h2⟩
  · have hl := toL_length s
    refine .inr ⟨a.length, by rw [← hl, h1]; simp, h2, ?_⟩
    rw [toL_extract, toL_extract, ← hl, h1]
    have e1 : List.drop (a.length + 1) (a ++ c :: b) = b := by
      rw [← List.drop_drop]; simp
    have e2 : List.take ((a ++ c :: b).length - (a.length + 1)) b = b := List.take_of_length_le (by simp; omega)
    rw [e1, splitL_hit h3, e2]
    simp

def blankL (c : UInt8) : Bool := c == 32 || c == 9
/-- a text without blanks around it. -/
def trimL (l : List UInt8) : List UInt8 := ((l.dropWhile blankL).reverse.dropWhile blankL).reverse
theorem trimL_length (l : List UInt8) : (trimL l).length ≤ l.length := by
  have h1 := (List.dropWhile_sublist blankL (l := l)).length_le
  have h2 := (List.dropWhile_sublist blankL (l := (l.dropWhile blankL).reverse)).length_le
  simp only [List.length_reverse] at h2
  simp only [trimL, List.length_reverse]
  omega
/-- the elements of a text. -/
def elemsL (l : List UInt8) : List (List UInt8) := ((splitL 44 l).map trimL).filter (fun p => !p.isEmpty)
/-- the elements of texts, one after the other. -/
def elemsAll (l : List ByteArray) : List (List UInt8) := (l.map (fun s => elemsL (toL s))).flatten
def total (l : List ByteArray) : Nat := (l.map (fun s => s.size + 1)).sum

theorem total_mem {l : List ByteArray} {s : ByteArray} (h : s ∈ l) : s.size ≤ total l := by
  induction l with
  | nil => simp at h
  | cons a r ih =>
    simp only [total, List.map_cons, List.sum_cons] at ih ⊢
    rcases List.mem_cons.1 h with rfl | h
    · omega
    · have := ih h; omega
theorem total_length (l : List ByteArray) : l.length ≤ total l := by
  induction l with
  | nil => simp [total]
  | cons a r ih => simp only [total, List.map_cons, List.sum_cons, List.length_cons] at ih ⊢; omega
theorem elemsL_length (l : List UInt8) : (elemsL l).length ≤ l.length + 1 :=
  Nat.le_trans (List.length_filter_le _ _) (by simpa using splitL_length 44 l)
theorem elemsAll_length (l : List ByteArray) : (elemsAll l).length ≤ total l := by
  induction l with
  | nil => simp [elemsAll, total]
  | cons s r ih =>
    have h1 := elemsL_length (toL s)
    rw [toL_length] at h1
    simp only [elemsAll, total, List.map_cons, List.flatten_cons, List.length_append, List.sum_cons] at ih ⊢
    omega
theorem elemsAll_append (a b : List ByteArray) : elemsAll (a ++ b) = elemsAll a ++ elemsAll b := by simp [elemsAll]
theorem elemsAll_one (s : ByteArray) : elemsAll [s] = elemsL (toL s) := by simp [elemsAll]

end Go.Proofs.YtiolgglipcijpaaDoor.LSpec
end

section
namespace Go.Proofs.YtiolgglipcijpaaDoor.P
open Go.RowKit Go.Proofs.YtiolgglipcijpaaDoorW.PrintWords Go.Proofs.YtiolgglipcijpaaDoorW.PrintLast Go.Proofs.YtiolgglipcijpaaDoorW.PrintMore
attribute [local go_sem] max2_int min2_int max_two min_two max_three min_three max_four min_four   -- for this text's walks alone
set_option linter.unusedVariables false
set_option linter.unusedSimpArgs false

/-! ### octet_within: function 62 -/
def octet_within.f (a0 : Int) (a1 : Int) (a2 : Int) : Option (Bool) := if a0 ≥ a1 then (some (decide (a0 ≤ a2))) else (some false)
set_option maxHeartbeats 8000000 in
set_option maxRecDepth 100000 in
theorem octet_within.calls (a0 : Int) (a1 : Int) (a2 : Int) (r : Bool) (w : World) (h : octet_within.f a0 a1 a2 = some r) :
    Calls Tryd.prog 62 #[.int .u8 a0, .int .u8 a1, .int .u8 a2] w fun e w' => e = .returned (.bool r) ∧ Drawn0 w w' := by
  have H : (if a0 ≥ a1 then (some (decide (a0 ≤ a2))) else (some false)) = some r := h
  clear h
  by_cases c4 : a0 ≥ a1
  · rw [if_pos c4] at H
    have c4b0 : decide (a1 ≤ a0) = true := decide_eq_true c4
    clear c4
    obtain rfl := Option.some.inj H
    go_enter Tryd.func62, Tryd.ntmps62
    go_wp2
    go_ret
    exact ⟨by first | rfl | (simp; done) | (simp [*]; done), by repeat (first | exact Drawn0.refl _ | apply Drawn0.step)⟩
  · rw [if_neg c4] at H
    have c4b0 : decide (a1 ≤ a0) = false := decide_eq_false c4
    clear c4
    obtain rfl := Option.some.inj H
    go_enter Tryd.func62, Tryd.ntmps62
    go_wp2
    go_ret
    exact ⟨by first | rfl | (simp; done) | (simp [*]; done), by repeat (first | exact Drawn0.refl _ | apply Drawn0.step)⟩

end Go.Proofs.YtiolgglipcijpaaDoor.P
end

section
namespace Go.Proofs.YtiolgglipcijpaaDoor.P
open Go.RowKit Go.Proofs.YtiolgglipcijpaaDoorW.PrintWords Go.Proofs.YtiolgglipcijpaaDoorW.PrintLast Go.Proofs.YtiolgglipcijpaaDoorW.PrintMore
attribute [local go_sem] max2_int min2_int max_two min_two max_three min_three max_four min_four   -- for this text's walks alone
set_option linter.unusedVariables false
set_option linter.unusedSimpArgs false

/-! ### octet_Digit: function 175 -/
def octet_Digit.f (a0 : Int) : Option (Bool) := (octet_within.f a0 48 57).bind fun t236 => (some t236)
set_option maxHeartbeats 8000000 in
set_option maxRecDepth 100000 in
theorem octet_Digit.calls (a0 : Int) (r : Bool) (w : World) (h : octet_Digit.f a0 = some r) :
    Calls Tryd.prog 175 #[.int .u8 a0] w fun e w' => e = .returned (.bool r) ∧ Drawn0 w w' := by
  have H : ((octet_within.f a0 48 57).bind fun t236 => (some t236)) = some r := h
  clear h
  replace H := Option.bind_eq_some_iff.mp H
  obtain ⟨t236, A20, H⟩ := H
  replace H : (some t236) = some r := H
  have A2 := Aside0.mk A20
  clear A20
  obtain rfl := Option.some.inj H
  go_enter Tryd.func175, Tryd.ntmps175
  go_wp2_with (first | ((with_reducible refine gate_callee (f := 62) rfl ?_); refine goesL_ (some 4) rfl rfl Tryd.func62 (by kernel_rfl) rfl #[.int .u8 a0, .int .u8 48, .int .u8 57] rfl (by (try simp only [List.map_toArray, List.map_cons, List.map_nil]); first | done | rfl | (simp only [List.length_drop, List.length_take]; rfl)) ?_; (with_reducible refine (octet_within.calls a0 48 57 t236 _ A2.out).mono ?_); rintro e w' ⟨rfl, ⟨nd, rfl⟩⟩; refine ⟨_, rfl, ?_⟩))
  go_ret
  exact ⟨by first | rfl | (simp; done) | (simp [*]; done), by repeat (first | exact Drawn0.refl _ | apply Drawn0.step)⟩

end Go.Proofs.YtiolgglipcijpaaDoor.P
end

section
namespace Go.Proofs.YtiolgglipcijpaaDoor.P
open Go.RowKit Go.Proofs.YtiolgglipcijpaaDoorW.PrintWords Go.Proofs.YtiolgglipcijpaaDoorW.PrintLast Go.Proofs.YtiolgglipcijpaaDoorW.PrintMore
attribute [local go_sem] max2_int min2_int max_two min_two max_three min_three max_four min_four   -- for this text's walks alone
set_option linter.unusedVariables false
set_option linter.unusedSimpArgs false

/-! ### octet_Letter: function 178 -/
def octet_Letter.f (a0 : Int) : Option (Bool) := (octet_within.f a0 65 90).bind fun t237 => (if t237 = true then (some true) else ((octet_within.f a0 97 122).bind fun t238 => (some t238)))
set_option maxHeartbeats 8000000 in
set_option maxRecDepth 100000 in
theorem octet_Letter.calls (a0 : Int) (r : Bool) (w : World) (h : octet_Letter.f a0 = some r) :
    Calls Tryd.prog 178 #[.int .u8 a0] w fun e w' => e = .returned (.bool r) ∧ Drawn0 w w' := by
  have H : ((octet_within.f a0 65 90).bind fun t237 => (if t237 = true then (some true) else ((octet_within.f a0 97 122).bind fun t238 => (some t238)))) = some r := h
  clear h
  replace H := Option.bind_eq_some_iff.mp H
  obtain ⟨t237, A20, H⟩ := H
  replace H : (if t237 = true then (some true) else ((octet_within.f a0 97 122).bind fun t238 => (some t238))) = some r := H
  have A2 := Aside0.mk A20
  clear A20
  by_cases c3 : t237 = true
  · subst c3
    have H1 : (some true) = some r := by rw [if_pos rfl] at H; exact H
    clear H
    have H := H1
    clear H1
    obtain rfl := Option.some.inj H
    go_enter Tryd.func178, Tryd.ntmps178
    go_wp2_with (first | ((with_reducible refine gate_callee (f := 62) rfl ?_); refine goesL_ (some 4) rfl rfl Tryd.func62 (by kernel_rfl) rfl #[.int .u8 a0, .int .u8 65, .int .u8 90] rfl (by (try simp only [List.map_toArray, List.map_cons, List.map_nil]); first | done | rfl | (simp only [List.length_drop, List.length_take]; rfl)) ?_; (with_reducible refine (octet_within.calls a0 65 90 true _ A2.out).mono ?_); rintro e w' ⟨rfl, ⟨nd, rfl⟩⟩; refine ⟨_, rfl, ?_⟩))
    go_ret
    exact ⟨by first | rfl | (simp; done) | (simp [*]; done), by repeat (first | exact Drawn0.refl _ | apply Drawn0.step)⟩
  · replace c3 := Bool.eq_false_iff.mpr c3
    subst c3
    have H1 : ((octet_within.f a0 97 122).bind fun t238 => (some t238)) = some r := by rw [if_neg (show ¬ (false = true) by decide)] at H; exact H
    clear H
    have H := H1
    clear H1
    replace H := Option.bind_eq_some_iff.mp H
    obtain ⟨t238, A40, H⟩ := H
    replace H : (some t238) = some r := H
    have A4 := Aside0.mk A40
    clear A40
    obtain rfl := Option.some.inj H
    go_enter Tryd.func178, Tryd.ntmps178
    go_wp2_with (first | ((with_reducible refine gate_callee (f := 62) rfl ?_); refine goesL_ (some 4) rfl rfl Tryd.func62 (by kernel_rfl) rfl #[.int .u8 a0, .int .u8 65, .int .u8 90] rfl (by (try simp only [List.map_toArray, List.map_cons, List.map_nil]); first | done | rfl | (simp only [List.length_drop, List.length_take]; rfl)) ?_; (with_reducible refine (octet_within.calls a0 65 90 false _ A2.out).mono ?_); rintro e w' ⟨rfl, ⟨nd, rfl⟩⟩; refine ⟨_, rfl, ?_⟩) | (go_at_call 62; (with_reducible refine (octet_within.calls a0 97 122 t238 _ A4.out).mono ?_); rintro e w' ⟨rfl, ⟨nd, rfl⟩⟩))
    go_ret
    exact ⟨by first | rfl | (simp; done) | (simp [*]; done), by repeat (first | exact Drawn0.refl _ | apply Drawn0.step)⟩

end Go.Proofs.YtiolgglipcijpaaDoor.P
end

section
namespace Go.Proofs.YtiolgglipcijpaaDoor.P
open Go.RowKit Go.Proofs.YtiolgglipcijpaaDoorW.PrintWords Go.Proofs.YtiolgglipcijpaaDoorW.PrintLast Go.Proofs.YtiolgglipcijpaaDoorW.PrintMore
attribute [local go_sem] max2_int min2_int max_two min_two max_three min_three max_four min_four   -- for this text's walks alone
set_option linter.unusedVariables false
set_option linter.unusedSimpArgs false

/-! ### octet_alnum: function 176 -/
def octet_alnum.f (a0 : Int) : Option (Bool) := (octet_Letter.f a0).bind fun t239 => (if t239 = true then (some true) else ((octet_Digit.f a0).bind fun t240 => (some t240)))
set_option maxHeartbeats 8000000 in
set_option maxRecDepth 100000 in
theorem octet_alnum.calls (a0 : Int) (r : Bool) (w : World) (h : octet_alnum.f a0 = some r) :
    Calls Tryd.prog 176 #[.int .u8 a0] w fun e w' => e = .returned (.bool r) ∧ Drawn0 w w' := by
  have H : ((octet_Letter.f a0).bind fun t239 => (if t239 = true then (some true) else ((octet_Digit.f a0).bind fun t240 => (some t240)))) = some r := h
  clear h
  replace H := Option.bind_eq_some_iff.mp H
  obtain ⟨t239, A20, H⟩ := H
  replace H : (if t239 = true then (some true) else ((octet_Digit.f a0).bind fun t240 => (some t240))) = some r := H
  have A2 := Aside0.mk A20
  clear A20
  by_cases c3 : t239 = true
  · subst c3
    have H1 : (some true) = some r := by rw [if_pos rfl] at H; exact H
    clear H
    have H := H1
    clear H1
    obtain rfl := Option.some.inj H
    go_enter Tryd.func176, Tryd.ntmps176
    go_wp2_with (first | ((with_reducible refine gate_callee (f := 178) rfl ?_); refine goesL_ (some 4) rfl rfl Tryd.func178 (by kernel_rfl) rfl #[.int .u8 a0] rfl (by (try simp only [List.map_toArray, List.map_cons, List.map_nil]); first | done | rfl | (simp only [List.length_drop, List.length_take]; rfl)) ?_; (with_reducible refine (octet_Letter.calls a0 true _ A2.out).mono ?_); rintro e w' ⟨rfl, ⟨nd, rfl⟩⟩; refine ⟨_, rfl, ?_⟩))
    go_ret
    exact ⟨by first | rfl | (simp; done) | (simp [*]; done), by repeat (first | exact Drawn0.refl _ | apply Drawn0.step)⟩
  · replace c3 := Bool.eq_false_iff.mpr c3
    subst c3
    have H1 : ((octet_Digit.f a0).bind fun t240 => (some t240)) = some r := by rw [if_neg (show ¬ (false = true) by decide)] at H; exact H
    clear H
    have H := H1
    clear H1
    replace H := Option.bind_eq_some_iff.mp H
    obtain ⟨t240, A40, H⟩ := H
    replace H : (some t240) = some r := H
    have A4 := Aside0.mk A40
    clear A40
    obtain rfl := Option.some.inj H
    go_enter Tryd.func176, Tryd.ntmps176
    go_wp2_with (first | ((with_reducible refine gate_callee (f := 178) rfl ?_); refine goesL_ (some 4) rfl rfl Tryd.func178 (by kernel_rfl) rfl #[.int .u8 a0] rfl (by (try simp only [List.map_toArray, List.map_cons, List.map_nil]); first | done | rfl | (simp only [List.length_drop, List.length_take]; rfl)) ?_; (with_reducible refine (octet_Letter.calls a0 false _ A2.out).mono ?_); rintro e w' ⟨rfl, ⟨nd, rfl⟩⟩; refine ⟨_, rfl, ?_⟩) | (go_at_call 175; (with_reducible refine (octet_Digit.calls a0 t240 _ A4.out).mono ?_); rintro e w' ⟨rfl, ⟨nd, rfl⟩⟩))
    go_ret
    exact ⟨by first | rfl | (simp; done) | (simp [*]; done), by repeat (first | exact Drawn0.refl _ | apply Drawn0.step)⟩

end Go.Proofs.YtiolgglipcijpaaDoor.P
end

section
namespace Go.Proofs.YtiolgglipcijpaaDoor.P
open Go.RowKit Go.Proofs.YtiolgglipcijpaaDoorW.PrintWords Go.Proofs.YtiolgglipcijpaaDoorW.PrintLast Go.Proofs.YtiolgglipcijpaaDoorW.PrintMore
attribute [local go_sem] max2_int min2_int max_two min_two max_three min_three max_four min_four   -- for this text's walks alone
set_option linter.unusedVariables false
set_option linter.unusedSimpArgs false

/-! ### octet_Token: function 173 -/
def octet_Token.j0 : Nat → Int → Int → Bool → Option (Bool)
  | 0, _, _, _ => none
  | k + 1, x0, x3, x4 => if x4 = true then (some true) else (if x3 = 45 then (some true) else (if x3 = 46 then (some true) else (if x3 = 94 then (some true) else (if x3 = 95 then (some true) else (if x3 = 96 then (some true) else (if x3 = 124 then (some true) else (if x3 = 126 then (some true) else ((octet_alnum.f x0).bind fun t241 => (some t241)))))))))
def octet_Token.f (k : Nat) (a0 : Int) : Option (Bool) := if a0 = 33 then (octet_Token.j0 k a0 a0 (a0 == 33)) else (if a0 = 35 then (octet_Token.j0 k a0 a0 (a0 == 35)) else (if a0 = 36 then (octet_Token.j0 k a0 a0 (a0 == 36)) else (if a0 = 37 then (octet_Token.j0 k a0 a0 (a0 == 37)) else (if a0 = 38 then (octet_Token.j0 k a0 a0 (a0 == 38)) else (if a0 = 39 then (octet_Token.j0 k a0 a0 (a0 == 39)) else (if a0 = 42 then (octet_Token.j0 k a0 a0 (a0 == 42)) else (octet_Token.j0 k a0 a0 (a0 == 43))))))))
theorem octet_Token.mono_l : ∀ k, (∀ y0 y1 y2, LeO (octet_Token.j0 k y0 y1 y2) (octet_Token.j0 (k + 1) y0 y1 y2))
  | 0 => fun _ _ _ r h => by simp [octet_Token.j0] at h
  | k + 1 => by
    have ih0 := octet_Token.mono_l k
    · intro y0 y1 y2
      unfold octet_Token.j0
      repeat' first
      | (with_reducible exact ih0 _ _ _)
      | (with_reducible exact LeO.refl _)
      | (with_reducible exact LeO.none _)
      | (with_reducible refine LeO.ite ?_ ?_)
      | (with_reducible refine LeO.bind ?_ (fun _ => ?_))
      | exact ih0 _ _ _
      | exact LeO.none _
      | refine LeO.ite ?_ ?_
      | refine LeO.bind ?_ (fun _ => ?_)
theorem octet_Token.mono : ∀ a0 k, LeO (octet_Token.f k a0) (octet_Token.f (k + 1) a0) := by
  intro a0 k
  have ih0 := octet_Token.mono_l k
  unfold octet_Token.f
  repeat' first
      | (with_reducible exact ih0 _ _ _)
      | (with_reducible exact LeO.refl _)
      | (with_reducible exact LeO.none _)
      | (with_reducible refine LeO.ite ?_ ?_)
      | (with_reducible refine LeO.bind ?_ (fun _ => ?_))
      | exact ih0 _ _ _
      | exact LeO.none _
      | refine LeO.ite ?_ ?_
      | refine LeO.bind ?_ (fun _ => ?_)
set_option maxHeartbeats 8000000 in
set_option maxRecDepth 100000 in
theorem octet_Token.calls (k : Nat) (a0 : Int) (r : Bool) (w : World) (h : octet_Token.f k a0 = some r) :
    Calls Tryd.prog 173 #[.int .u8 a0] w fun e w' => e = .returned (.bool r) ∧ Drawn0 w w' := by
  have H : (if a0 = 33 then (octet_Token.j0 k a0 a0 (a0 == 33)) else (if a0 = 35 then (octet_Token.j0 k a0 a0 (a0 == 35)) else (if a0 = 36 then (octet_Token.j0 k a0 a0 (a0 == 36)) else (if a0 = 37 then (octet_Token.j0 k a0 a0 (a0 == 37)) else (if a0 = 38 then (octet_Token.j0 k a0 a0 (a0 == 38)) else (if a0 = 39 then (octet_Token.j0 k a0 a0 (a0 == 39)) else (if a0 = 42 then (octet_Token.j0 k a0 a0 (a0 == 42)) else (octet_Token.j0 k a0 a0 (a0 == 43))))))))) = some r := h
  clear h
  have HC2 := Aside0.mk H
  clear H
  go_enter Tryd.func173, Tryd.ntmps173
  go_upto_if 4 with (fail)
  go_cut [4] (fun v4 wc => ∃ (kq : Nat) (x4_1 : Bool), v4 = .bool x4_1 ∧ Aside0 (octet_Token.j0 kq a0 a0 x4_1 = some r) ∧ Aside0 (kq ≤ k) ∧ Drawn0 w wc)
  case first =>
    have H := HC2.out
    clear HC2
    by_cases c3 : a0 = 33
    · rw [if_pos c3] at H
      have c3b0 : (a0 == 33) = true := beq_iff_eq.mpr c3
      have c3b1 : (a0 != 33) = false := bne_eq_false_iff_eq.mpr c3
      clear c3
      (first | rw [c3b0] | (simp only [i64_w, i32_w]; rw [c3b0]) | skip)
      have H' := Aside0.mk H
      clear H
      go_wp2
      go_meet
      case rel => exact ⟨_, ((a0 == 33)), (by first | rfl | (simp; done) | (simp [*]; done)), H', ⟨by first | omega | exact Nat.le_refl _⟩, by repeat (first | exact Drawn0.refl _ | apply Drawn0.step)⟩
    · rw [if_neg c3] at H
      have c3b0 : (a0 == 33) = false := beq_eq_false_iff_ne.mpr c3
      have c3b1 : (a0 != 33) = true := bne_iff_ne.mpr c3
      (first | rw [c3b0] | (simp only [i64_w, i32_w]; rw [c3b0]) | skip)
      by_cases c4 : a0 = 35
      · rw [if_pos c4] at H
        have c4b0 : (a0 == 35) = true := beq_iff_eq.mpr c4
        have c4b1 : (a0 != 35) = false := bne_eq_false_iff_eq.mpr c4
        clear c4
        have H' := Aside0.mk H
        clear H
        go_wp2
        go_meet
        case rel => exact ⟨_, ((a0 == 35)), (by first | rfl | (simp; done) | (simp [*]; done)), H', ⟨by first | omega | exact Nat.le_refl _⟩, by repeat (first | exact Drawn0.refl _ | apply Drawn0.step)⟩
      · rw [if_neg c4] at H
        have c4b0 : (a0 == 35) = false := beq_eq_false_iff_ne.mpr c4
        have c4b1 : (a0 != 35) = true := bne_iff_ne.mpr c4
        by_cases c5 : a0 = 36
        · rw [if_pos c5] at H
          have c5b0 : (a0 == 36) = true := beq_iff_eq.mpr c5
          have c5b1 : (a0 != 36) = false := bne_eq_false_iff_eq.mpr c5
          clear c5
          have H' := Aside0.mk H
          clear H
          go_wp2
          go_meet
          case rel => exact ⟨_, ((a0 == 36)), (by first | rfl | (simp; done) | (simp [*]; done)), H', ⟨by first | omega | exact Nat.le_refl _⟩, by repeat (first | exact Drawn0.refl _ | apply Drawn0.step)⟩
        · rw [if_neg c5] at H
          have c5b0 : (a0 == 36) = false := beq_eq_false_iff_ne.mpr c5
          have c5b1 : (a0 != 36) = true := bne_iff_ne.mpr c5
          by_cases c6 : a0 = 37
          · rw [if_pos c6] at H
            have c6b0 : (a0 == 37) = true := beq_iff_eq.mpr c6
            have c6b1 : (a0 != 37) = false := bne_eq_false_iff_eq.mpr c6
            clear c6
            have H' := Aside0.mk H
            clear H
            go_wp2
            go_meet
            case rel => exact ⟨_, ((a0 == 37)), (by first | rfl | (simp; done) | (simp [*]; done)), H', ⟨by first | omega | exact Nat.le_refl _⟩, by repeat (first | exact Drawn0.refl _ | apply Drawn0.step)⟩
          · rw [if_neg c6] at H
            have c6b0 : (a0 == 37) = false := beq_eq_false_iff_ne.mpr c6
            have c6b1 : (a0 != 37) = true := bne_iff_ne.mpr c6
            by_cases c7 : a0 = 38
            · rw [if_pos c7] at H
              have c7b0 : (a0 == 38) = true := beq_iff_eq.mpr c7
              have c7b1 : (a0 != 38) = false := bne_eq_false_iff_eq.mpr c7
              clear c7
              have H' := Aside0.mk H
              clear H
              go_wp2
              go_meet
              case rel => exact ⟨_, ((a0 == 38)), (by first | rfl | (simp; done) | (simp [*]; done)), H', ⟨by first | omega | exact Nat.le_refl _⟩, by repeat (first | exact Drawn0.refl _ | apply Drawn0.step)⟩
            · rw [if_neg c7] at H
              have c7b0 : (a0 == 38) = false := beq_eq_false_iff_ne.mpr c7
              have c7b1 : (a0 != 38) = true := bne_iff_ne.mpr c7
              by_cases c8 : a0 = 39
              · rw [if_pos c8] at H
                have c8b0 : (a0 == 39) = true := beq_iff_eq.mpr c8
                have c8b1 : (a0 != 39) = false := bne_eq_false_iff_eq.mpr c8
                clear c8
                have H' := Aside0.mk H
                clear H
                go_wp2
                go_meet
                case rel => exact ⟨_, ((a0 == 39)), (by first | rfl | (simp; done) | (simp [*]; done)), H', ⟨by first | omega | exact Nat.le_refl _⟩, by repeat (first | exact Drawn0.refl _ | apply Drawn0.step)⟩
              · rw [if_neg c8] at H
                have c8b0 : (a0 == 39) = false := beq_eq_false_iff_ne.mpr c8
                have c8b1 : (a0 != 39) = true := bne_iff_ne.mpr c8
                by_cases c9 : a0 = 42
                · rw [if_pos c9] at H
                  have c9b0 : (a0 == 42) = true := beq_iff_eq.mpr c9
                  have c9b1 : (a0 != 42) = false := bne_eq_false_iff_eq.mpr c9
                  clear c9
                  have H' := Aside0.mk H
                  clear H
                  go_wp2
                  go_meet
                  case rel => exact ⟨_, ((a0 == 42)), (by first | rfl | (simp; done) | (simp [*]; done)), H', ⟨by first | omega | exact Nat.le_refl _⟩, by repeat (first | exact Drawn0.refl _ | apply Drawn0.step)⟩
                · rw [if_neg c9] at H
                  have c9b0 : (a0 == 42) = false := beq_eq_false_iff_ne.mpr c9
                  have c9b1 : (a0 != 42) = true := bne_iff_ne.mpr c9
                  have H' := Aside0.mk H
                  clear H
                  go_wp2
                  go_meet
                  case rel => exact ⟨_, ((a0 == 43)), (by first | rfl | (simp; done) | (simp [*]; done)), H', ⟨by first | omega | exact Nat.le_refl _⟩, by repeat (first | exact Drawn0.refl _ | apply Drawn0.step)⟩
  case rest =>
    clear HC2
    try clear c1
    try clear p2
    try clear c3
    try clear c3b0
    try clear c3b1
    try clear c4
    try clear c4b0
    try clear c4b1
    try clear c5
    try clear c5b0
    try clear c5b1
    try clear c6
    try clear c6b0
    try clear c6b1
    try clear c7
    try clear c7b0
    try clear c7b1
    try clear c8
    try clear c8b0
    try clear c8b1
    try clear c9
    try clear c9b0
    try clear c9b1
    obtain ⟨kq, x4_1, rfl, HA, HJ1, ⟨mc1, rfl⟩⟩ := hcut
    cases kq with
    | zero => exact absurd HA.out (by simp [octet_Token.j0])
    | succ kj1 =>
      have H := HA.out
      clear HA
      simp only [octet_Token.j0] at H
      by_cases c10 : x4_1 = true
      · subst c10
        have H1 : (some true) = some r := by rw [if_pos rfl] at H; exact H
        clear H
        have H := H1
        clear H1
        obtain rfl := Option.some.inj H
        go_wp2
        go_ret
        exact ⟨by first | rfl | (simp; done) | (simp [*]; done), by repeat (first | exact Drawn0.refl _ | apply Drawn0.step)⟩
      · replace c10 := Bool.eq_false_iff.mpr c10
        subst c10
        have H1 : (if a0 = 45 then (some true) else (if a0 = 46 then (some true) else (if a0 = 94 then (some true) else (if a0 = 95 then (some true) else (if a0 = 96 then (some true) else (if a0 = 124 then (some true) else (if a0 = 126 then (some true) else ((octet_alnum.f a0).bind fun t241 => (some t241))))))))) = some r := by rw [if_neg (show ¬ (false = true) by decide)] at H; exact H
        clear H
        have H := H1
        clear H1
        by_cases c11 : a0 = 45
        · rw [if_pos c11] at H
          have c11b0 : (a0 == 45) = true := beq_iff_eq.mpr c11
          have c11b1 : (a0 != 45) = false := bne_eq_false_iff_eq.mpr c11
          clear c11
          obtain rfl := Option.some.inj H
          go_wp2
          go_ret
          exact ⟨by first | rfl | (simp; done) | (simp [*]; done), by repeat (first | exact Drawn0.refl _ | apply Drawn0.step)⟩
        · rw [if_neg c11] at H
          have c11b0 : (a0 == 45) = false := beq_eq_false_iff_ne.mpr c11
          have c11b1 : (a0 != 45) = true := bne_iff_ne.mpr c11
          by_cases c12 : a0 = 46
          · rw [if_pos c12] at H
            have c12b0 : (a0 == 46) = true := beq_iff_eq.mpr c12
            have c12b1 : (a0 != 46) = false := bne_eq_false_iff_eq.mpr c12
            clear c12
            obtain rfl := Option.some.inj H
            go_wp2
            go_ret
            exact ⟨by first | rfl | (simp; done) | (simp [*]; done), by repeat (first | exact Drawn0.refl _ | apply Drawn0.step)⟩
          · rw [if_neg c12] at H
            have c12b0 : (a0 == 46) = false := beq_eq_false_iff_ne.mpr c12
            have c12b1 : (a0 != 46) = true := bne_iff_ne.mpr c12
            by_cases c13 : a0 = 94
            · rw [if_pos c13] at H
              have c13b0 : (a0 == 94) = true := beq_iff_eq.mpr c13
              have c13b1 : (a0 != 94) = false := bne_eq_false_iff_eq.mpr c13
              clear c13
              obtain rfl := Option.some.inj H
              go_wp2
              go_ret
              exact ⟨by first | rfl | (simp; done) | (simp [*]; done), by repeat (first | exact Drawn0.refl _ | apply Drawn0.step)⟩
            · rw [if_neg c13] at H
              have c13b0 : (a0 == 94) = false := beq_eq_false_iff_ne.mpr c13
              have c13b1 : (a0 != 94) = true := bne_iff_ne.mpr c13
              by_cases c14 : a0 = 95
              · rw [if_pos c14] at H
                have c14b0 : (a0 == 95) = true := beq_iff_eq.mpr c14
                have c14b1 : (a0 != 95) = false := bne_eq_false_iff_eq.mpr c14
                clear c14
                obtain rfl := Option.some.inj H
                go_wp2
                go_ret
                exact ⟨by first | rfl | (simp; done) | (simp [*]; done), by repeat (first | exact Drawn0.refl _ | apply Drawn0.step)⟩
              · rw [if_neg c14] at H
                have c14b0 : (a0 == 95) = false := beq_eq_false_iff_ne.mpr c14
                have c14b1 : (a0 != 95) = true := bne_iff_ne.mpr c14
                by_cases c15 : a0 = 96
                · rw [if_pos c15] at H
                  have c15b0 : (a0 == 96) = true := beq_iff_eq.mpr c15
                  have c15b1 : (a0 != 96) = false := bne_eq_false_iff_eq.mpr c15
                  clear c15
                  obtain rfl := Option.some.inj H
                  go_wp2
                  go_ret
                  exact ⟨by first | rfl | (simp; done) | (simp [*]; done), by repeat (first | exact Drawn0.refl _ | apply Drawn0.step)⟩
                · rw [if_neg c15] at H
                  have c15b0 : (a0 == 96) = false := beq_eq_false_iff_ne.mpr c15
                  have c15b1 : (a0 != 96) = true := bne_iff_ne.mpr c15
                  by_cases c16 : a0 = 124
                  · rw [if_pos c16] at H
                    have c16b0 : (a0 == 124) = true := beq_iff_eq.mpr c16
                    have c16b1 : (a0 != 124) = false := bne_eq_false_iff_eq.mpr c16
                    clear c16
                    obtain rfl := Option.some.inj H
                    go_wp2
                    go_ret
                    exact ⟨by first | rfl | (simp; done) | (simp [*]; done), by repeat (first | exact Drawn0.refl _ | apply Drawn0.step)⟩
                  · rw [if_neg c16] at H
                    have c16b0 : (a0 == 124) = false := beq_eq_false_iff_ne.mpr c16
                    have c16b1 : (a0 != 124) = true := bne_iff_ne.mpr c16
                    by_cases c17 : a0 = 126
                    · rw [if_pos c17] at H
                      have c17b0 : (a0 == 126) = true := beq_iff_eq.mpr c17
                      have c17b1 : (a0 != 126) = false := bne_eq_false_iff_eq.mpr c17
                      clear c17
                      obtain rfl := Option.some.inj H
                      go_wp2
                      go_ret
                      exact ⟨by first | rfl | (simp; done) | (simp [*]; done), by repeat (first | exact Drawn0.refl _ | apply Drawn0.step)⟩
                    · rw [if_neg c17] at H
                      have c17b0 : (a0 == 126) = false := beq_eq_false_iff_ne.mpr c17
                      have c17b1 : (a0 != 126) = true := bne_iff_ne.mpr c17
                      replace H := Option.bind_eq_some_iff.mp H
                      obtain ⟨t241, A180, H⟩ := H
                      replace H : (some t241) = some r := H
                      have A18 := Aside0.mk A180
                      clear A180
                      obtain rfl := Option.some.inj H
                      go_wp2_with (first | ((with_reducible refine gate_callee (f := 176) rfl ?_); refine goesL_ (some 22) rfl rfl Tryd.func176 (by kernel_rfl) rfl #[.int .u8 a0] rfl (by (try simp only [List.map_toArray, List.map_cons, List.map_nil]); first | done | rfl | (simp only [List.length_drop, List.length_take]; rfl)) ?_; (with_reducible refine (octet_alnum.calls a0 t241 _ A18.out).mono ?_); rintro e w' ⟨rfl, ⟨nd, rfl⟩⟩; refine ⟨_, rfl, ?_⟩))
                      go_ret
                      exact ⟨by first | rfl | (simp; done) | (simp [*]; done), by repeat (first | exact Drawn0.refl _ | apply Drawn0.step)⟩

/-- THE ONE PURE STATEMENT of octet_Token: yours. -/
def octet_Token.Pure : Prop := ∀ (a0 : Int), (Lit.int .u8 a0).wf = true → ∃ k, octet_Token.f k a0 = some true
theorem octet_Token.walk (P : octet_Token.Pure) (a0 : Int) (w : World) (w0 : (Lit.int .u8 a0).wf = true) :
    Calls Tryd.prog 173 #[.int .u8 a0] w fun e w' => e = .returned (.bool true) ∧ Below w.heap.size w w' := by
  obtain ⟨k, h⟩ := P a0 w0
  refine (octet_Token.calls k a0 true w h).mono ?_
  rintro e w' ⟨rfl, hd⟩
  exact ⟨rfl, hd.below⟩

end Go.Proofs.YtiolgglipcijpaaDoor.P
end

section
namespace Go.Proofs.YtiolgglipcijpaaDoor.P
open Go.RowKit Go.Proofs.YtiolgglipcijpaaDoorW.PrintWords Go.Proofs.YtiolgglipcijpaaDoorW.PrintLast Go.Proofs.YtiolgglipcijpaaDoorW.PrintMore
attribute [local go_sem] max2_int min2_int max_two min_two max_three min_three max_four min_four   -- for this text's walks alone
set_option linter.unusedVariables false
set_option linter.unusedSimpArgs false

/-! ### reqline_visible: function 170 -/
def reqline_visible.f (a0 : Int) : Option (Bool) := if a0 > 32 then (some (decide (a0 < 127))) else (some false)
set_option maxHeartbeats 8000000 in
set_option maxRecDepth 100000 in
theorem reqline_visible.calls (a0 : Int) (r : Bool) (w : World) (h : reqline_visible.f a0 = some r) :
    Calls Tryd.prog 170 #[.int .u8 a0] w fun e w' => e = .returned (.bool r) ∧ Drawn0 w w' := by
  have H : (if a0 > 32 then (some (decide (a0 < 127))) else (some false)) = some r := h
  clear h
  by_cases c2 : a0 > 32
  · rw [if_pos c2] at H
    have c2b0 : decide (32 < a0) = true := decide_eq_true c2
    clear c2
    obtain rfl := Option.some.inj H
    go_enter Tryd.func170, Tryd.ntmps170
    go_wp2
    go_ret
    exact ⟨by first | rfl | (simp; done) | (simp [*]; done), by repeat (first | exact Drawn0.refl _ | apply Drawn0.step)⟩
  · rw [if_neg c2] at H
    have c2b0 : decide (32 < a0) = false := decide_eq_false c2
    clear c2
    obtain rfl := Option.some.inj H
    go_enter Tryd.func170, Tryd.ntmps170
    go_wp2
    go_ret
    exact ⟨by first | rfl | (simp; done) | (simp [*]; done), by repeat (first | exact Drawn0.refl _ | apply Drawn0.step)⟩

/-- THE ONE PURE STATEMENT of reqline_visible: yours. -/
def reqline_visible.Pure : Prop := ∀ (a0 : Int), (Lit.int .u8 a0).wf = true → reqline_visible.f a0 = some true
theorem reqline_visible.walk (P : reqline_visible.Pure) (a0 : Int) (w : World) (w0 : (Lit.int .u8 a0).wf = true) :
    Calls Tryd.prog 170 #[.int .u8 a0] w fun e w' => e = .returned (.bool true) ∧ Below w.heap.size w w' := by
  have h := P a0 w0
  refine (reqline_visible.calls a0 true w h).mono ?_
  rintro e w' ⟨rfl, hd⟩
  exact ⟨rfl, hd.below⟩

end Go.Proofs.YtiolgglipcijpaaDoor.P
end

section
namespace Go.Proofs.YtiolgglipcijpaaDoor.ROct
open Go Go.RowKit Go.Proofs.YtiolgglipcijpaaDoorW.PrintWords Go.Proofs.YtiolgglipcijpaaDoor.PB Go.Proofs.YtiolgglipcijpaaDoor.P

/-- a byte of tokens. -/
def tokB (c : UInt8) : Bool :=
  (65 ≤ c && c ≤ 90) || (97 ≤ c && c ≤ 122) || (48 ≤ c && c ≤ 57) || [33, 35, 36, 37, 38, 39, 42, 43, 45, 46, 94, 95, 96, 124, 126].contains c

theorem tok_fin : ∀ n : Fin 256, octet_Token.f 2 (n.val : Int) = some (tokB (UInt8.ofNat n.val)) := by decide +kernel
theorem tok_f (c : UInt8) : octet_Token.f 2 (c.toNat : Int) = some (tokB c) := by
  have := tok_fin ⟨c.toNat, c.toNat_lt⟩
  simpa using this

/-- a byte of targets. -/
def visB (c : UInt8) : Bool := 33 ≤ c && c ≤ 126
theorem vis_fin : ∀ n : Fin 256, reqline_visible.f (n.val : Int) = some (visB (UInt8.ofNat n.val)) := by decide +kernel
theorem vis_f (c : UInt8) : reqline_visible.f (c.toNat : Int) = some (visB c) := by
  have := vis_fin ⟨c.toNat, c.toNat_lt⟩
  simpa using this

theorem ret_bool {a b : Bool} (h : a = b) : Ending.returned (.bool a) = .returned (.bool b) := by rw [h]

theorem Drawn0.trans {a b c : World} (h : Drawn0 a b) (g : Drawn0 b c) : Drawn0 a c := by
  obtain ⟨⟨n, rfl⟩⟩ := g
  exact h.step n

def allTok (l : List UInt8) (k : Nat) : Bool := (l.take k).all tokB
theorem allTok_succ (s : ByteArray) (k : Nat) (h : k < s.size) : allTok (toL s) (k + 1) = (allTok (toL s) k && tokB s[k]) := by
  have h' : k < (toL s).length := by rw [toL_length]; exact h
  unfold allTok
  rw [List.take_succ_eq_append_getElem h', List.all_append]
  simp only [List.all_cons, List.all_nil, Bool.and_true]
  rfl
set_option maxHeartbeats 2000000 in
theorem All_calls (s : ByteArray) (hs : s.size ≤ 9223372036854775807) (w : World) : Calls Tryd.prog 169 #[.string s, .func (.func 173) #[] #[]] w fun e w' => e = .returned (.bool ((toL s).all tokB)) ∧ Drawn0 w w' := by
  go_enter Tryd.func169, Tryd.ntmps169
  go_wp2
  go_loopw [8] (fun i wr => ∃ k : Nat, k ≤ s.size ∧ i = .int .i64 k ∧ allTok (toL s) k = true ∧ Drawn0 w wr) (fun i _ => s.size - (RowKit.intOf i).toNat)
  case atStart => exact ⟨0, Nat.zero_le _, rfl, by simp [allTok], Drawn0.refl w⟩
  case round =>
    obtain ⟨k, hk, rfl, hat, hdr⟩ := hrel
    have Hat := Lib.hid hat
    clear hat
    by_cases hlt : k < s.size
    · have hsu := allTok_succ s k hlt
      have Hsu := Lib.hid hsu
      clear hsu
      have htk := tok_f s[k]
      cases hb : tokB s[k] with
      | true =>
        rw [hb] at htk
        have Hb := Lib.hid hb
        clear hb
        go_wp2_with ((with_reducible refine (octet_Token.calls 2 _ true _ htk).mono ?_); rintro e w' ⟨rfl, hd⟩)
        go_roundw
        case rel => exact ⟨k + 1, by omega, by go_num, by rw [Hsu.out, Hat.out, Hb.out]; rfl, Drawn0.trans hdr hd⟩
        case measure => simp [RowKit.intOf]; omega
      | false =>
        rw [hb] at htk
        have Hb := Lib.hid hb
        clear hb
        go_wp2_with ((with_reducible refine (octet_Token.calls 2 _ false _ htk).mono ?_); rintro e w' ⟨rfl, hd⟩)
        go_ret
        refine ⟨ret_bool ?_, Drawn0.trans hdr hd⟩
        have h1 : tokB s[k] = false := Hb.out
        symm
        rw [List.all_eq_false]
        exact ⟨s[k], by rw [toL]; exact Array.getElem_mem_toList (by exact hlt), by rw [h1]; simp⟩
    · obtain rfl : k = s.size := by omega
      go_wp2
      go_ret
      refine ⟨ret_bool ?_, hdr⟩
      have := Hat.out
      rw [allTok, List.take_of_length_le (by rw [toL_length]; exact Nat.le_refl _)] at this
      exact this.symm

def allVis (l : List UInt8) (k : Nat) : Bool := (l.take k).all visB
theorem allVis_succ (s : ByteArray) (k : Nat) (h : k < s.size) : allVis (toL s) (k + 1) = (allVis (toL s) k && visB s[k]) := by
  have h' : k < (toL s).length := by rw [toL_length]; exact h
  unfold allVis
  rw [List.take_succ_eq_append_getElem h', List.all_append]
  simp only [List.all_cons, List.all_nil, Bool.and_true]
  rfl
set_option maxHeartbeats 2000000 in
theorem AllVis_calls (s : ByteArray) (hs : s.size ≤ 9223372036854775807) (w : World) : Calls Tryd.prog 169 #[.string s, .func (.func 170) #[] #[]] w fun e w' => e = .returned (.bool ((toL s).all visB)) ∧ Drawn0 w w' := by
  go_enter Tryd.func169, Tryd.ntmps169
  go_wp2
  go_loopw [8] (fun i wr => ∃ k : Nat, k ≤ s.size ∧ i = .int .i64 k ∧ allVis (toL s) k = true ∧ Drawn0 w wr) (fun i _ => s.size - (RowKit.intOf i).toNat)
  case atStart => exact ⟨0, Nat.zero_le _, rfl, by simp [allVis], Drawn0.refl w⟩
  case round =>
    obtain ⟨k, hk, rfl, hat, hdr⟩ := hrel
    have Hat := Lib.hid hat
    clear hat
    by_cases hlt : k < s.size
    · have hsu := allVis_succ s k hlt
      have Hsu := Lib.hid hsu
      clear hsu
      have htk := vis_f s[k]
      cases hb : visB s[k] with
      | true =>
        rw [hb] at htk
        have Hb := Lib.hid hb
        clear hb
        go_wp2_with ((with_reducible refine (reqline_visible.calls _ true _ htk).mono ?_); rintro e w' ⟨rfl, hd⟩)
        go_roundw
        case rel => exact ⟨k + 1, by omega, by go_num, by rw [Hsu.out, Hat.out, Hb.out]; rfl, Drawn0.trans hdr hd⟩
        case measure => simp [RowKit.intOf]; omega
      | false =>
        rw [hb] at htk
        have Hb := Lib.hid hb
        clear hb
        go_wp2_with ((with_reducible refine (reqline_visible.calls _ false _ htk).mono ?_); rintro e w' ⟨rfl, hd⟩)
        go_ret
        refine ⟨ret_bool ?_, Drawn0.trans hdr hd⟩
        have h1 : visB s[k] = false := Hb.out
        symm
        rw [List.all_eq_false]
        exact ⟨s[k], by rw [toL]; exact Array.getElem_mem_toList (by exact hlt), by rw [h1]; simp⟩
    · obtain rfl : k = s.size := by omega
      go_wp2
      go_ret
      refine ⟨ret_bool ?_, hdr⟩
      have := Hat.out
      rw [allVis, List.take_of_length_le (by rw [toL_length]; exact Nat.le_refl _)] at this
      exact this.symm

def isTok (s : ByteArray) : Bool := !(toL s).isEmpty && (toL s).all tokB
theorem isTok_nil (s : ByteArray) (h : toL s = []) : isTok s = false := by simp [isTok, h]
theorem isTok_cons (s : ByteArray) (h : ¬ toL s = []) : isTok s = (toL s).all tokB := by simp [isTok, h]

set_option maxHeartbeats 2000000 in
theorem IsToken_calls (s : ByteArray) (hs : s.size ≤ 9223372036854775807) (w : World) : Calls Tryd.prog 167 #[.string s] w fun e w' => e = .returned (.bool (isTok s)) ∧ Drawn0 w w' := by
  by_cases h : toL s = []
  · rw [isTok_nil s h]
    have h1 : (s.toList == ([] : List UInt8)) = true := by rw [toList_toL, h]; rfl
    have h2 : (s.toList != ([] : List UInt8)) = false := by rw [bne, h1]; rfl
    clear h
    go_enter Tryd.func167, Tryd.ntmps167
    go_wp2
    go_ret
    exact ⟨rfl, Drawn0.refl _⟩
  · rw [isTok_cons s h]
    have h1 : (s.toList == ([] : List UInt8)) = false := by rw [toList_toL]; simpa using h
    have h2 : (s.toList != ([] : List UInt8)) = true := by rw [bne, h1]; rfl
    clear h
    go_enter Tryd.func167, Tryd.ntmps167
    go_wp2_with ((with_reducible refine (All_calls s hs _).mono ?_); rintro e w' ⟨rfl, hd⟩)
    go_ret
    exact ⟨rfl, hd⟩

def isVis (s : ByteArray) : Bool := !(toL s).isEmpty && (toL s).all visB
theorem isVis_nil (s : ByteArray) (h : toL s = []) : isVis s = false := by simp [isVis, h]
theorem isVis_cons (s : ByteArray) (h : ¬ toL s = []) : isVis s = (toL s).all visB := by simp [isVis, h]

set_option maxHeartbeats 2000000 in
theorem rule1_calls (s : ByteArray) (hs : s.size ≤ 9223372036854775807) (w : World) : Calls Tryd.prog 168 #[.string s] w fun e w' => e = .returned (.bool (isVis s)) ∧ Drawn0 w w' := by
  by_cases h : toL s = []
  · rw [isVis_nil s h]
    have h1 : (s.toList == ([] : List UInt8)) = true := by rw [toList_toL, h]; rfl
    have h2 : (s.toList != ([] : List UInt8)) = false := by rw [bne, h1]; rfl
    clear h
    go_enter Tryd.func168, Tryd.ntmps168
    go_wp2
    go_ret
    exact ⟨rfl, Drawn0.refl _⟩
  · rw [isVis_cons s h]
    have h1 : (s.toList == ([] : List UInt8)) = false := by rw [toList_toL]; simpa using h
    have h2 : (s.toList != ([] : List UInt8)) = true := by rw [bne, h1]; rfl
    clear h
    go_enter Tryd.func168, Tryd.ntmps168
    go_wp2_with ((with_reducible refine (AllVis_calls s hs _).mono ?_); rintro e w' ⟨rfl, hd⟩)
    go_ret
    exact ⟨rfl, hd⟩


end Go.Proofs.YtiolgglipcijpaaDoor.ROct
end

section
namespace Go.Proofs.YtiolgglipcijpaaDoor.P
open Go.RowKit Go.Proofs.YtiolgglipcijpaaDoorW.PrintWords Go.Proofs.YtiolgglipcijpaaDoorW.PrintLast Go.Proofs.YtiolgglipcijpaaDoorW.PrintMore
attribute [local go_sem] max2_int min2_int max_two min_two max_three min_three max_four min_four   -- for this text's walks alone
set_option linter.unusedVariables false
set_option linter.unusedSimpArgs false

/-! ### stringslite_HasPrefix: function 179 -/
def stringslite_HasPrefix.f (a0 : ByteArray) (a1 : ByteArray) : Option (Bool) := if (a0.size : Int) ≥ (a1.size : Int) then (if 0 ≤ (a1.size : Int) then (if (a1.size : Int) ≤ (a0.size : Int) then (some ((a0.extract 0 ((a1.size : Int) : Int).toNat).toList == a1.toList)) else (none)) else (none)) else (some false)
set_option maxHeartbeats 8000000 in
set_option maxRecDepth 100000 in
theorem stringslite_HasPrefix.calls (a0 : ByteArray) (a1 : ByteArray) (r : Bool) (w : World) (h : stringslite_HasPrefix.f a0 a1 = some r) :
    Calls Tryd.prog 179 #[.string a0, .string a1] w fun e w' => e = .returned (.bool r) ∧ Drawn0 w w' := by
  have H : (if (a0.size : Int) ≥ (a1.size : Int) then (if 0 ≤ (a1.size : Int) then (if (a1.size : Int) ≤ (a0.size : Int) then (some ((a0.extract 0 ((a1.size : Int) : Int).toNat).toList == a1.toList)) else (none)) else (none)) else (some false)) = some r := h
  clear h
  by_cases c3 : (a0.size : Int) ≥ (a1.size : Int)
  · rw [if_pos c3] at H
    have c3b0 : decide ((a1.size : Int) ≤ (a0.size : Int)) = true := decide_eq_true c3
    have c3b1 : decide (a1.size ≤ a0.size) = true := decide_eq_true (Int.ofNat_le.mp c3)
    clear c3
    by_cases c4 : 0 ≤ (a1.size : Int)
    · rw [if_pos c4] at H
      have c4b0 := eq_true c4
      have c4b1 : decide (0 ≤ (a1.size : Int)) = true := decide_eq_true c4
      clear c4
      by_cases c5 : (a1.size : Int) ≤ (a0.size : Int)
      · rw [if_pos c5] at H
        have c5b0 := eq_true c5
        have c5b1 : decide ((a1.size : Int) ≤ (a0.size : Int)) = true := decide_eq_true c5
        clear c5
        obtain rfl := Option.some.inj H
        go_enter Tryd.func179, Tryd.ntmps179
        go_wp2
        go_ret
        exact ⟨by first | rfl | (simp; done) | (simp [*]; done), by repeat (first | exact Drawn0.refl _ | apply Drawn0.step)⟩
      · rw [if_neg c5] at H
        exact absurd H (by simp)
    · rw [if_neg c4] at H
      exact absurd H (by simp)
  · rw [if_neg c3] at H
    have c3b0 : decide ((a1.size : Int) ≤ (a0.size : Int)) = false := decide_eq_false c3
    have c3b1 : decide (a1.size ≤ a0.size) = false := decide_eq_false (fun h => c3 (Int.ofNat_le.mpr h))
    clear c3
    obtain rfl := Option.some.inj H
    go_enter Tryd.func179, Tryd.ntmps179
    go_wp2
    go_ret
    exact ⟨by first | rfl | (simp; done) | (simp [*]; done), by repeat (first | exact Drawn0.refl _ | apply Drawn0.step)⟩

end Go.Proofs.YtiolgglipcijpaaDoor.P
end

section
namespace Go.Proofs.YtiolgglipcijpaaDoor.P
open Go.RowKit Go.Proofs.YtiolgglipcijpaaDoorW.PrintWords Go.Proofs.YtiolgglipcijpaaDoorW.PrintLast Go.Proofs.YtiolgglipcijpaaDoorW.PrintMore
attribute [local go_sem] max2_int min2_int max_two min_two max_three min_three max_four min_four   -- for this text's walks alone
set_option linter.unusedVariables false
set_option linter.unusedSimpArgs false

/-! ### stringslite_CutPrefix: function 177 -/
def stringslite_CutPrefix.f (a0 : ByteArray) (a1 : ByteArray) : Option (ByteArray × Bool) := (stringslite_HasPrefix.f a0 a1).bind fun t242 => (if t242 = true then (if 0 ≤ (a1.size : Int) then (if (a1.size : Int) ≤ (a0.size : Int) then (some (a0.extract ((a1.size : Int) : Int).toNat a0.size, true)) else (none)) else (none)) else (some (a0, false)))
set_option maxHeartbeats 8000000 in
set_option maxRecDepth 100000 in
theorem stringslite_CutPrefix.calls (a0 : ByteArray) (a1 : ByteArray) (r1 : ByteArray) (r2 : Bool) (w : World) (h : stringslite_CutPrefix.f a0 a1 = some (r1, r2)) :
    Calls Tryd.prog 177 #[.string a0, .string a1] w fun e w' => e = .returned (.tuple #[.string r1, .bool r2]) ∧ Drawn0 w w' := by
  have H : ((stringslite_HasPrefix.f a0 a1).bind fun t242 => (if t242 = true then (if 0 ≤ (a1.size : Int) then (if (a1.size : Int) ≤ (a0.size : Int) then (some (a0.extract ((a1.size : Int) : Int).toNat a0.size, true)) else (none)) else (none)) else (some (a0, false)))) = some (r1, r2) := h
  clear h
  replace H := Option.bind_eq_some_iff.mp H
  obtain ⟨t242, A30, H⟩ := H
  replace H : (if t242 = true then (if 0 ≤ (a1.size : Int) then (if (a1.size : Int) ≤ (a0.size : Int) then (some (a0.extract ((a1.size : Int) : Int).toNat a0.size, true)) else (none)) else (none)) else (some (a0, false))) = some (r1, r2) := H
  have A3 := Aside0.mk A30
  clear A30
  by_cases c4 : t242 = true
  · subst c4
    have H1 : (if 0 ≤ (a1.size : Int) then (if (a1.size : Int) ≤ (a0.size : Int) then (some (a0.extract ((a1.size : Int) : Int).toNat a0.size, true)) else (none)) else (none)) = some (r1, r2) := by rw [if_pos rfl] at H; exact H
    clear H
    have H := H1
    clear H1
    by_cases c5 : 0 ≤ (a1.size : Int)
    · rw [if_pos c5] at H
      have c5b0 := eq_true c5
      have c5b1 : decide (0 ≤ (a1.size : Int)) = true := decide_eq_true c5
      clear c5
      by_cases c6 : (a1.size : Int) ≤ (a0.size : Int)
      · rw [if_pos c6] at H
        have c6b0 := eq_true c6
        have c6b1 : decide ((a1.size : Int) ≤ (a0.size : Int)) = true := decide_eq_true c6
        clear c6
        simp only [Option.some.injEq, Prod.mk.injEq] at H
        obtain ⟨rfl, rfl⟩ := H
        go_enter Tryd.func177, Tryd.ntmps177
        go_wp2_with (first | ((with_reducible refine gate_callee (f := 179) rfl ?_); refine goesL_ (some 8) rfl rfl Tryd.func179 (by kernel_rfl) rfl #[.string a0, .string a1] rfl (by (try simp only [List.map_toArray, List.map_cons, List.map_nil]); first | done | rfl | (simp only [List.length_drop, List.length_take]; rfl)) ?_; (with_reducible refine (stringslite_HasPrefix.calls a0 a1 true _ A3.out).mono ?_); rintro e w' ⟨rfl, ⟨nd, rfl⟩⟩; refine ⟨_, rfl, ?_⟩))
        go_ret2
        exact ⟨by first | rfl | (simp; done) | (simp [*]; done), by repeat (first | exact Drawn0.refl _ | apply Drawn0.step)⟩
      · rw [if_neg c6] at H
        exact absurd H (by simp)
    · rw [if_neg c5] at H
      exact absurd H (by simp)
  · replace c4 := Bool.eq_false_iff.mpr c4
    subst c4
    have H1 : (some (a0, false)) = some (r1, r2) := by rw [if_neg (show ¬ (false = true) by decide)] at H; exact H
    clear H
    have H := H1
    clear H1
    simp only [Option.some.injEq, Prod.mk.injEq] at H
    obtain ⟨rfl, rfl⟩ := H
    go_enter Tryd.func177, Tryd.ntmps177
    go_wp2_with (first | ((with_reducible refine gate_callee (f := 179) rfl ?_); refine goesL_ (some 8) rfl rfl Tryd.func179 (by kernel_rfl) rfl #[.string a0, .string a1] rfl (by (try simp only [List.map_toArray, List.map_cons, List.map_nil]); first | done | rfl | (simp only [List.length_drop, List.length_take]; rfl)) ?_; (with_reducible refine (stringslite_HasPrefix.calls a0 a1 false _ A3.out).mono ?_); rintro e w' ⟨rfl, ⟨nd, rfl⟩⟩; refine ⟨_, rfl, ?_⟩))
    go_ret2
    exact ⟨by first | rfl | (simp; done) | (simp [*]; done), by repeat (first | exact Drawn0.refl _ | apply Drawn0.step)⟩

end Go.Proofs.YtiolgglipcijpaaDoor.P
end

section
namespace Go.Proofs.YtiolgglipcijpaaDoor.P
open Go.RowKit Go.Proofs.YtiolgglipcijpaaDoorW.PrintWords Go.Proofs.YtiolgglipcijpaaDoorW.PrintLast Go.Proofs.YtiolgglipcijpaaDoorW.PrintMore
attribute [local go_sem] max2_int min2_int max_two min_two max_three min_three max_four min_four   -- for this text's walks alone
set_option linter.unusedVariables false
set_option linter.unusedSimpArgs false

/-! ### strings_CutPrefix: function 174 -/
def strings_CutPrefix.f (a0 : ByteArray) (a1 : ByteArray) : Option (ByteArray × Bool) := (stringslite_CutPrefix.f a0 a1).bind fun bt243 => (some (bt243.1, bt243.2))
set_option maxHeartbeats 8000000 in
set_option maxRecDepth 100000 in
theorem strings_CutPrefix.calls (a0 : ByteArray) (a1 : ByteArray) (r1 : ByteArray) (r2 : Bool) (w : World) (h : strings_CutPrefix.f a0 a1 = some (r1, r2)) :
    Calls Tryd.prog 174 #[.string a0, .string a1] w fun e w' => e = .returned (.tuple #[.string r1, .bool r2]) ∧ Drawn0 w w' := by
  have H : ((stringslite_CutPrefix.f a0 a1).bind fun bt243 => (some (bt243.1, bt243.2))) = some (r1, r2) := h
  clear h
  replace H := Option.bind_eq_some_iff.mp H
  obtain ⟨⟨t243, t244⟩, A30, H⟩ := H
  replace H : (some (t243, t244)) = some (r1, r2) := H
  have A3 := Aside0.mk A30
  clear A30
  simp only [Option.some.injEq, Prod.mk.injEq] at H
  obtain ⟨rfl, rfl⟩ := H
  go_enter Tryd.func174, Tryd.ntmps174
  go_wp2_with (first | ((with_reducible refine gate_callee (f := 177) rfl ?_); refine goesL_ (some 8) rfl rfl Tryd.func177 (by kernel_rfl) rfl #[.string a0, .string a1] rfl (by (try simp only [List.map_toArray, List.map_cons, List.map_nil]); first | done | rfl | (simp only [List.length_drop, List.length_take]; rfl)) ?_; (with_reducible refine (stringslite_CutPrefix.calls a0 a1 t243 t244 _ A3.out).mono ?_); rintro e w' ⟨rfl, ⟨nd, rfl⟩⟩; refine ⟨_, rfl, ?_⟩))
  go_ret2
  exact ⟨by first | rfl | (simp; done) | (simp [*]; done), by repeat (first | exact Drawn0.refl _ | apply Drawn0.step)⟩

end Go.Proofs.YtiolgglipcijpaaDoor.P
end

section
namespace Go.Proofs.YtiolgglipcijpaaDoor.P
open Go.RowKit Go.Proofs.YtiolgglipcijpaaDoorW.PrintWords Go.Proofs.YtiolgglipcijpaaDoorW.PrintLast Go.Proofs.YtiolgglipcijpaaDoorW.PrintMore
attribute [local go_sem] max2_int min2_int max_two min_two max_three min_three max_four min_four   -- for this text's walks alone
set_option linter.unusedVariables false
set_option linter.unusedSimpArgs false

/-! ### reqline_version: function 171 -/
def reqline_version.f (a0 : ByteArray) : Option (Bool) := (strings_CutPrefix.f a0 (⟨#[72, 84, 84, 80, 47]⟩ : ByteArray)).bind fun bt245 => (if bt245.2 = true then (if (bt245.1.size : Int) = 3 then (if 0 < (bt245.1.size : Int) then ((octet_Digit.f (bt bt245.1 0)).bind fun t247 => (if t247 = true then (if 1 < (bt245.1.size : Int) then (if (bt bt245.1 1) = 46 then (if 2 < (bt245.1.size : Int) then ((octet_Digit.f (bt bt245.1 2)).bind fun t248 => (some t248)) else (none)) else (some false)) else (none)) else (some false))) else (none)) else (some false)) else (some false))
set_option maxHeartbeats 8000000 in
set_option maxRecDepth 100000 in
theorem reqline_version.calls (a0 : ByteArray) (r : Bool) (w : World) (h : reqline_version.f a0 = some r) :
    Calls Tryd.prog 171 #[.string a0] w fun e w' => e = .returned (.bool r) ∧ Drawn0 w w' := by
  have H : ((strings_CutPrefix.f a0 (⟨#[72, 84, 84, 80, 47]⟩ : ByteArray)).bind fun bt245 => (if bt245.2 = true then (if (bt245.1.size : Int) = 3 then (if 0 < (bt245.1.size : Int) then ((octet_Digit.f (bt bt245.1 0)).bind fun t247 => (if t247 = true then (if 1 < (bt245.1.size : Int) then (if (bt bt245.1 1) = 46 then (if 2 < (bt245.1.size : Int) then ((octet_Digit.f (bt bt245.1 2)).bind fun t248 => (some t248)) else (none)) else (some false)) else (none)) else (some false))) else (none)) else (some false)) else (some false))) = some r := h
  clear h
  replace H := Option.bind_eq_some_iff.mp H
  obtain ⟨⟨t245, t246⟩, A20, H⟩ := H
  replace H : (if t246 = true then (if (t245.size : Int) = 3 then (if 0 < (t245.size : Int) then ((octet_Digit.f (bt t245 0)).bind fun t247 => (if t247 = true then (if 1 < (t245.size : Int) then (if (bt t245 1) = 46 then (if 2 < (t245.size : Int) then ((octet_Digit.f (bt t245 2)).bind fun t248 => (some t248)) else (none)) else (some false)) else (none)) else (some false))) else (none)) else (some false)) else (some false)) = some r := H
  have A2 := Aside0.mk A20
  clear A20
  by_cases c3 : t246 = true
  · subst c3
    have H1 : (if (t245.size : Int) = 3 then (if 0 < (t245.size : Int) then ((octet_Digit.f (bt t245 0)).bind fun t247 => (if t247 = true then (if 1 < (t245.size : Int) then (if (bt t245 1) = 46 then (if 2 < (t245.size : Int) then ((octet_Digit.f (bt t245 2)).bind fun t248 => (some t248)) else (none)) else (some false)) else (none)) else (some false))) else (none)) else (some false)) = some r := by rw [if_pos rfl] at H; exact H
    clear H
    have H := H1
    clear H1
    by_cases c4 : (t245.size : Int) = 3
    · rw [if_pos c4] at H
      have c4b0 : ((t245.size : Int) == 3) = true := beq_iff_eq.mpr c4
      have c4b1 : ((t245.size : Int) != 3) = false := bne_eq_false_iff_eq.mpr c4
      clear c4
      by_cases c5 : 0 < (t245.size : Int)
      · rw [if_pos c5] at H
        have c5b0 : decide (0 < (t245.size : Int)) = true := decide_eq_true c5
        have c5b1 : decide (0 < t245.size) = true := decide_eq_true (by omega)
        clear c5
        replace H := Option.bind_eq_some_iff.mp H
        obtain ⟨t247, A70, H⟩ := H
        replace H : (if t247 = true then (if 1 < (t245.size : Int) then (if (bt t245 1) = 46 then (if 2 < (t245.size : Int) then ((octet_Digit.f (bt t245 2)).bind fun t248 => (some t248)) else (none)) else (some false)) else (none)) else (some false)) = some r := H
        have A7 := Aside0.mk A70
        clear A70
        by_cases c8 : t247 = true
        · subst c8
          have H1 : (if 1 < (t245.size : Int) then (if (bt t245 1) = 46 then (if 2 < (t245.size : Int) then ((octet_Digit.f (bt t245 2)).bind fun t248 => (some t248)) else (none)) else (some false)) else (none)) = some r := by rw [if_pos rfl] at H; exact H
          clear H
          have H := H1
          clear H1
          by_cases c9 : 1 < (t245.size : Int)
          · rw [if_pos c9] at H
            have c9b0 : decide (1 < (t245.size : Int)) = true := decide_eq_true c9
            have c9b1 : decide (1 < t245.size) = true := decide_eq_true (by omega)
            clear c9
            by_cases c11 : (bt t245 1) = 46
            · rw [if_pos c11] at H
              have c11b0 : ((bt t245 1) == 46) = true := beq_iff_eq.mpr c11
              have c11b1 : ((bt t245 1) != 46) = false := bne_eq_false_iff_eq.mpr c11
              clear c11
              by_cases c12 : 2 < (t245.size : Int)
              · rw [if_pos c12] at H
                have c12b0 : decide (2 < (t245.size : Int)) = true := decide_eq_true c12
                have c12b1 : decide (2 < t245.size) = true := decide_eq_true (by omega)
                clear c12
                replace H := Option.bind_eq_some_iff.mp H
                obtain ⟨t248, A140, H⟩ := H
                replace H : (some t248) = some r := H
                have A14 := Aside0.mk A140
                clear A140
                obtain rfl := Option.some.inj H
                go_enter Tryd.func171, Tryd.ntmps171
                go_wp2_with (first | ((with_reducible refine gate_callee (f := 174) rfl ?_); refine goesL_ (some 6) rfl rfl Tryd.func174 (by kernel_rfl) rfl #[.string a0, .string (⟨#[72, 84, 84, 80, 47]⟩ : ByteArray)] rfl (by (try simp only [List.map_toArray, List.map_cons, List.map_nil]); first | done | rfl | (simp only [List.length_drop, List.length_take]; rfl)) ?_; (with_reducible refine (strings_CutPrefix.calls a0 (⟨#[72, 84, 84, 80, 47]⟩ : ByteArray) t245 true _ A2.out).mono ?_); rintro e w' ⟨rfl, ⟨nd, rfl⟩⟩; refine ⟨_, rfl, ?_⟩; have p6 : 0 ≤ (0 : Int) := (by omega); have q6 : 0 < t245.size := (by have : (0 : Int) < (t245.size : Int) := of_decide_eq_true (by first | (with_reducible assumption) | assumption); omega); have hx6 : ∀ h : 0 < t245.size, ((t245[0]'h).toNat : Int) = bt t245 0 := bt_at t245 0; clear p6; have qi6 : (0 < (t245.size : Int)) = True := eq_true (of_decide_eq_true (by first | (with_reducible assumption) | assumption)); replace q6 := eq_true q6) | (go_at_call 175; (with_reducible refine (octet_Digit.calls (bt t245 0) true _ A7.out).mono ?_); rintro e w' ⟨rfl, ⟨nd, rfl⟩⟩; have p10 : 0 ≤ (1 : Int) := (by omega); have q10 : 1 < t245.size := (by have : (1 : Int) < (t245.size : Int) := of_decide_eq_true (by first | (with_reducible assumption) | assumption); omega); have hx10 : ∀ h : 1 < t245.size, ((t245[1]'h).toNat : Int) = bt t245 1 := bt_at t245 1; clear p10; have qi10 : (1 < (t245.size : Int)) = True := eq_true (of_decide_eq_true (by first | (with_reducible assumption) | assumption)); replace q10 := eq_true q10; have p13 : 0 ≤ (2 : Int) := (by omega); have q13 : 2 < t245.size := (by have : (2 : Int) < (t245.size : Int) := of_decide_eq_true (by first | (with_reducible assumption) | assumption); omega); have hx13 : ∀ h : 2 < t245.size, ((t245[2]'h).toNat : Int) = bt t245 2 := bt_at t245 2; clear p13; have qi13 : (2 < (t245.size : Int)) = True := eq_true (of_decide_eq_true (by first | (with_reducible assumption) | assumption)); replace q13 := eq_true q13) | (go_at_call 175; (with_reducible refine (octet_Digit.calls (bt t245 2) t248 _ A14.out).mono ?_); rintro e w' ⟨rfl, ⟨nd, rfl⟩⟩))
                go_ret
                exact ⟨by first | rfl | (simp; done) | (simp [*]; done), by repeat (first | exact Drawn0.refl _ | apply Drawn0.step)⟩
              · rw [if_neg c12] at H
                exact absurd H (by simp)
            · rw [if_neg c11] at H
              have c11b0 : ((bt t245 1) == 46) = false := beq_eq_false_iff_ne.mpr c11
              have c11b1 : ((bt t245 1) != 46) = true := bne_iff_ne.mpr c11
              obtain rfl := Option.some.inj H
              go_enter Tryd.func171, Tryd.ntmps171
              go_wp2_with (first | ((with_reducible refine gate_callee (f := 174) rfl ?_); refine goesL_ (some 6) rfl rfl Tryd.func174 (by kernel_rfl) rfl #[.string a0, .string (⟨#[72, 84, 84, 80, 47]⟩ : ByteArray)] rfl (by (try simp only [List.map_toArray, List.map_cons, List.map_nil]); first | done | rfl | (simp only [List.length_drop, List.length_take]; rfl)) ?_; (with_reducible refine (strings_CutPrefix.calls a0 (⟨#[72, 84, 84, 80, 47]⟩ : ByteArray) t245 true _ A2.out).mono ?_); rintro e w' ⟨rfl, ⟨nd, rfl⟩⟩; refine ⟨_, rfl, ?_⟩; have p6 : 0 ≤ (0 : Int) := (by omega); have q6 : 0 < t245.size := (by have : (0 : Int) < (t245.size : Int) := of_decide_eq_true (by first | (with_reducible assumption) | assumption); omega); have hx6 : ∀ h : 0 < t245.size, ((t245[0]'h).toNat : Int) = bt t245 0 := bt_at t245 0; clear p6; have qi6 : (0 < (t245.size : Int)) = True := eq_true (of_decide_eq_true (by first | (with_reducible assumption) | assumption)); replace q6 := eq_true q6) | (go_at_call 175; (with_reducible refine (octet_Digit.calls (bt t245 0) true _ A7.out).mono ?_); rintro e w' ⟨rfl, ⟨nd, rfl⟩⟩; have p10 : 0 ≤ (1 : Int) := (by omega); have q10 : 1 < t245.size := (by have : (1 : Int) < (t245.size : Int) := of_decide_eq_true (by first | (with_reducible assumption) | assumption); omega); have hx10 : ∀ h : 1 < t245.size, ((t245[1]'h).toNat : Int) = bt t245 1 := bt_at t245 1; clear p10; have qi10 : (1 < (t245.size : Int)) = True := eq_true (of_decide_eq_true (by first | (with_reducible assumption) | assumption)); replace q10 := eq_true q10))
              go_ret
              exact ⟨by first | rfl | (simp; done) | (simp [*]; done), by repeat (first | exact Drawn0.refl _ | apply Drawn0.step)⟩
          · rw [if_neg c9] at H
            exact absurd H (by simp)
        · replace c8 := Bool.eq_false_iff.mpr c8
          subst c8
          have H1 : (some false) = some r := by rw [if_neg (show ¬ (false = true) by decide)] at H; exact H
          clear H
          have H := H1
          clear H1
          obtain rfl := Option.some.inj H
          go_enter Tryd.func171, Tryd.ntmps171
          go_wp2_with (first | ((with_reducible refine gate_callee (f := 174) rfl ?_); refine goesL_ (some 6) rfl rfl Tryd.func174 (by kernel_rfl) rfl #[.string a0, .string (⟨#[72, 84, 84, 80, 47]⟩ : ByteArray)] rfl (by (try simp only [List.map_toArray, List.map_cons, List.map_nil]); first | done | rfl | (simp only [List.length_drop, List.length_take]; rfl)) ?_; (with_reducible refine (strings_CutPrefix.calls a0 (⟨#[72, 84, 84, 80, 47]⟩ : ByteArray) t245 true _ A2.out).mono ?_); rintro e w' ⟨rfl, ⟨nd, rfl⟩⟩; refine ⟨_, rfl, ?_⟩; have p6 : 0 ≤ (0 : Int) := (by omega); have q6 : 0 < t245.size := (by have : (0 : Int) < (t245.size : Int) := of_decide_eq_true (by first | (with_reducible assumption) | assumption); omega); have hx6 : ∀ h : 0 < t245.size, ((t245[0]'h).toNat : Int) = bt t245 0 := bt_at t245 0; clear p6; have qi6 : (0 < (t245.size : Int)) = True := eq_true (of_decide_eq_true (by first | (with_reducible assumption) | assumption)); replace q6 := eq_true q6) | (go_at_call 175; (with_reducible refine (octet_Digit.calls (bt t245 0) false _ A7.out).mono ?_); rintro e w' ⟨rfl, ⟨nd, rfl⟩⟩))
          go_ret
          exact ⟨by first | rfl | (simp; done) | (simp [*]; done), by repeat (first | exact Drawn0.refl _ | apply Drawn0.step)⟩
      · rw [if_neg c5] at H
        exact absurd H (by simp)
    · rw [if_neg c4] at H
      have c4b0 : ((t245.size : Int) == 3) = false := beq_eq_false_iff_ne.mpr c4
      have c4b1 : ((t245.size : Int) != 3) = true := bne_iff_ne.mpr c4
      obtain rfl := Option.some.inj H
      go_enter Tryd.func171, Tryd.ntmps171
      go_wp2_with (first | ((with_reducible refine gate_callee (f := 174) rfl ?_); refine goesL_ (some 6) rfl rfl Tryd.func174 (by kernel_rfl) rfl #[.string a0, .string (⟨#[72, 84, 84, 80, 47]⟩ : ByteArray)] rfl (by (try simp only [List.map_toArray, List.map_cons, List.map_nil]); first | done | rfl | (simp only [List.length_drop, List.length_take]; rfl)) ?_; (with_reducible refine (strings_CutPrefix.calls a0 (⟨#[72, 84, 84, 80, 47]⟩ : ByteArray) t245 true _ A2.out).mono ?_); rintro e w' ⟨rfl, ⟨nd, rfl⟩⟩; refine ⟨_, rfl, ?_⟩))
      go_ret
      exact ⟨by first | rfl | (simp; done) | (simp [*]; done), by repeat (first | exact Drawn0.refl _ | apply Drawn0.step)⟩
  · replace c3 := Bool.eq_false_iff.mpr c3
    subst c3
    have H1 : (some false) = some r := by rw [if_neg (show ¬ (false = true) by decide)] at H; exact H
    clear H
    have H := H1
    clear H1
    obtain rfl := Option.some.inj H
    go_enter Tryd.func171, Tryd.ntmps171
    go_wp2_with (first | ((with_reducible refine gate_callee (f := 174) rfl ?_); refine goesL_ (some 6) rfl rfl Tryd.func174 (by kernel_rfl) rfl #[.string a0, .string (⟨#[72, 84, 84, 80, 47]⟩ : ByteArray)] rfl (by (try simp only [List.map_toArray, List.map_cons, List.map_nil]); first | done | rfl | (simp only [List.length_drop, List.length_take]; rfl)) ?_; (with_reducible refine (strings_CutPrefix.calls a0 (⟨#[72, 84, 84, 80, 47]⟩ : ByteArray) t245 false _ A2.out).mono ?_); rintro e w' ⟨rfl, ⟨nd, rfl⟩⟩; refine ⟨_, rfl, ?_⟩))
    go_ret
    exact ⟨by first | rfl | (simp; done) | (simp [*]; done), by repeat (first | exact Drawn0.refl _ | apply Drawn0.step)⟩

/-- THE ONE PURE STATEMENT of reqline_version: yours. -/
def reqline_version.Pure : Prop := ∀ (a0 : ByteArray), a0.size ≤ 140737488351232 → reqline_version.f a0 = some true
theorem reqline_version.walk (P : reqline_version.Pure) (a0 : ByteArray) (w : World) (w0 : a0.size ≤ 140737488351232) :
    Calls Tryd.prog 171 #[.string a0] w fun e w' => e = .returned (.bool true) ∧ Below w.heap.size w w' := by
  have h := P a0 w0
  refine (reqline_version.calls a0 true w h).mono ?_
  rintro e w' ⟨rfl, hd⟩
  exact ⟨rfl, hd.below⟩

end Go.Proofs.YtiolgglipcijpaaDoor.P
end

section
namespace Go.Proofs.YtiolgglipcijpaaDoor.P
open Go.RowKit Go.Proofs.YtiolgglipcijpaaDoorW.PrintWords Go.Proofs.YtiolgglipcijpaaDoorW.PrintLast Go.Proofs.YtiolgglipcijpaaDoorW.PrintMore
attribute [local go_sem] max2_int min2_int max_two min_two max_three min_three max_four min_four   -- for this text's walks alone
set_option linter.unusedVariables false
set_option linter.unusedSimpArgs false

/-! ### reqline_supported: function 172 -/
def reqline_supported.f (a0 : ByteArray) : Option (Bool) := if a0.toList = ([72, 84, 84, 80, 47, 49, 46, 48] : List UInt8) then (some true) else (some (a0.toList == ([72, 84, 84, 80, 47, 49, 46, 49] : List UInt8)))
set_option maxHeartbeats 8000000 in
set_option maxRecDepth 100000 in
theorem reqline_supported.calls (a0 : ByteArray) (r : Bool) (w : World) (h : reqline_supported.f a0 = some r) :
    Calls Tryd.prog 172 #[.string a0] w fun e w' => e = .returned (.bool r) ∧ Drawn0 w w' := by
  have H : (if a0.toList = ([72, 84, 84, 80, 47, 49, 46, 48] : List UInt8) then (some true) else (some (a0.toList == ([72, 84, 84, 80, 47, 49, 46, 49] : List UInt8)))) = some r := h
  clear h
  by_cases c2 : a0.toList = ([72, 84, 84, 80, 47, 49, 46, 48] : List UInt8)
  · rw [if_pos c2] at H
    have c2b0 : (a0.toList == ([72, 84, 84, 80, 47, 49, 46, 48] : List UInt8)) = true := beq_iff_eq.mpr c2
    have c2b1 : (a0.toList != ([72, 84, 84, 80, 47, 49, 46, 48] : List UInt8)) = false := bne_eq_false_iff_eq.mpr c2
    clear c2
    obtain rfl := Option.some.inj H
    go_enter Tryd.func172, Tryd.ntmps172
    go_wp2
    go_ret
    exact ⟨by first | rfl | (simp; done) | (simp [*]; done), by repeat (first | exact Drawn0.refl _ | apply Drawn0.step)⟩
  · rw [if_neg c2] at H
    have c2b0 : (a0.toList == ([72, 84, 84, 80, 47, 49, 46, 48] : List UInt8)) = false := beq_eq_false_iff_ne.mpr c2
    have c2b1 : (a0.toList != ([72, 84, 84, 80, 47, 49, 46, 48] : List UInt8)) = true := bne_iff_ne.mpr c2
    obtain rfl := Option.some.inj H
    go_enter Tryd.func172, Tryd.ntmps172
    go_wp2
    go_ret
    exact ⟨by first | rfl | (simp; done) | (simp [*]; done), by repeat (first | exact Drawn0.refl _ | apply Drawn0.step)⟩

/-- THE ONE PURE STATEMENT of reqline_supported: yours. -/
def reqline_supported.Pure : Prop := ∀ (a0 : ByteArray), a0.size ≤ 140737488351232 → reqline_supported.f a0 = some true
theorem reqline_supported.walk (P : reqline_supported.Pure) (a0 : ByteArray) (w : World) (w0 : a0.size ≤ 140737488351232) :
    Calls Tryd.prog 172 #[.string a0] w fun e w' => e = .returned (.bool true) ∧ Below w.heap.size w w' := by
  have h := P a0 w0
  refine (reqline_supported.calls a0 true w h).mono ?_
  rintro e w' ⟨rfl, hd⟩
  exact ⟨rfl, hd.below⟩

end Go.Proofs.YtiolgglipcijpaaDoor.P
end

section
namespace Go.Proofs.YtiolgglipcijpaaDoor.RSpec
open Go Go.RowKit Go.Lib Go.Proofs.YtiolgglipcijpaaDoorW.PrintWords Go.Proofs.YtiolgglipcijpaaDoor.PB Go.Proofs.YtiolgglipcijpaaDoor.P Go.Proofs.YtiolgglipcijpaaDoor.LSpec
open Go.Proofs.YtiolgglipcijpaaDoor.ROct (tokB visB isTok isVis)

theorem index32 (s : ByteArray) : indexB s (⟨#[32]⟩ : ByteArray) = indexByte (toL s) 32 := by
  show index (toL s) [32] = _
  exact index_one _ _
theorem split32 : ∀ (k : Nat) (s : ByteArray), countB s (⟨#[32]⟩ : ByteArray) = k → splitB (⟨#[32]⟩ : ByteArray) 0 k s = (splitL 32 (toL s)).map ofL := by
  intro k
  induction k with
  | zero =>
    intro s hs
    rcases split_at (c := 32) s with ⟨h1, h2⟩ | ⟨i, hi, h1, h2⟩
    · rw [splitB_zero, h2, List.map_singleton, ofL_toL]
    · rw [countB_hit s _ i (by decide) (by rw [index32]; exact h1)] at hs
      omega
  | succ k ih =>
    intro s hs
    rcases split_at (c := 32) s with ⟨h1, h2⟩ | ⟨i, hi, h1, h2⟩
    · rw [countB_miss s _ (by rw [index32]; exact h1)] at hs; omega
    · rw [countB_hit s _ i (by decide) (by rw [index32]; exact h1)] at hs
      have h3 : (⟨#[32]⟩ : ByteArray).size = 1 := rfl
      rw [h3] at hs
      rw [splitB_hit _ _ _ _ i (by rw [index32]; exact h1), h2, List.map_cons, ofL_toL, ← ih _ (by omega), h3]
      rfl
theorem split32_length (s : ByteArray) : (splitL 32 (toL s)).length = countB s (⟨#[32]⟩ : ByteArray) + 1 := by
  have h := splitB_all (⟨#[32]⟩ : ByteArray) (by decide) 0 (countB s (⟨#[32]⟩ : ByteArray)) s rfl
  rw [split32 _ s rfl, List.length_map] at h
  exact h

def digB (c : UInt8) : Bool := 48 ≤ c && c ≤ 57
/-- HTTP/ and two digits. -/
def verL (v : List UInt8) : Bool := match v with
  | [a, b, c, d, e, f, g, h] => a == 72 && b == 84 && c == 84 && d == 80 && e == 47 && digB f && g == 46 && digB h
  | _ => false
def supL (v : List UInt8) : Bool := v == [72, 84, 84, 80, 47, 49, 46, 48] || v == [72, 84, 84, 80, 47, 49, 46, 49]
def errC (status at_ : Nat) : Option Int := some ((at_ : Int) * 1000 + (status : Int))
abbrev Out := ByteArray × ByteArray × Int × Option Int
def bad (status at_ : Nat) : Out := (⟨#[]⟩, ⟨#[]⟩, 0, errC status at_)
/-- a line in three parts. -/
def lineL (m t v : List UInt8) : Out :=
  if isTok (ofL m) = false then bad 400 0
  else if isVis (ofL t) = false then bad 400 (m.length + 1)
  else if verL v = false then bad 400 (m.length + t.length + 2)
  else if supL v = false then bad 505 (m.length + t.length + 2)
  else (ofL m, ofL t, (if v == [72, 84, 84, 80, 47, 49, 46, 49] then 1 else 0), none)
def parseL (l : List UInt8) : Out := match splitL 32 l with
  | [m, t, v] => lineL m t v
  | _ => bad 400 0

theorem supported_f (v : ByteArray) : reqline_supported.f v = some (supL (toL v)) := by
  unfold reqline_supported.f supL
  rw [toList_toL]
  by_cases h : toL v = [72, 84, 84, 80, 47, 49, 46, 48]
  · rw [if_pos h, h]; rfl
  · rw [if_neg h]
    have : (toL v == [72, 84, 84, 80, 47, 49, 46, 48]) = false := by simpa using h
    rw [this, Bool.false_or]
theorem dig_fin : ∀ n : Fin 256, octet_Digit.f (n.val : Int) = some (digB (UInt8.ofNat n.val)) := by decide +kernel
theorem dig_f (c : UInt8) : octet_Digit.f (c.toNat : Int) = some (digB c) := by
  have := dig_fin ⟨c.toNat, c.toNat_lt⟩
  simpa using this

def cutL (l : List UInt8) : List UInt8 × Bool := if l.take 5 = [72, 84, 84, 80, 47] then (l.drop 5, true) else (l, false)
theorem cut_f (l : List UInt8) : strings_CutPrefix.f (ofL l) (⟨#[72, 84, 84, 80, 47]⟩ : ByteArray) = some (ofL (cutL l).1, (cutL l).2) := by
  have h5 : ((⟨#[72, 84, 84, 80, 47]⟩ : ByteArray).size : Int) = 5 := rfl
  have h6 : (⟨#[72, 84, 84, 80, 47]⟩ : ByteArray).toList = [72, 84, 84, 80, 47] := toList_ofL [72, 84, 84, 80, 47]
  unfold strings_CutPrefix.f stringslite_CutPrefix.f stringslite_HasPrefix.f cutL
  simp only [h5, h6, size_ofL, extract_ofL, toList_ofL]
  by_cases hl : ((l.length : Int) ≥ 5)
  · rw [if_pos hl, if_pos (by omega), if_pos (by omega)]
    have e1 : (5 : Int).toNat = 5 := rfl
    rw [e1, List.drop_zero, Nat.sub_zero]
    have e2 : (l.drop 5).take (l.length - 5) = l.drop 5 := List.take_of_length_le (by simp)
    rw [e2]
    by_cases ht : l.take 5 = [72, 84, 84, 80, 47]
    · have hn : (5 : Int) ≤ l.length := by omega
      simp [ht, hn]
    · have : (l.take 5 == [72, 84, 84, 80, 47]) = false := by simpa using ht
      simp [ht]
  · rw [if_neg hl]
    have ht : ¬ l.take 5 = [72, 84, 84, 80, 47] := fun h => by
      have := congrArg List.length h
      simp at this
      omega
    simp [ht]
theorem ver_cut (l : List UInt8) : verL l = ((cutL l).2 && (match (cutL l).1 with | [f, g, h] => digB f && g == 46 && digB h | _ => false)) := by
  unfold verL cutL
  split
  · rename_i a b c d e f g h
    by_cases hp : [a, b, c, d, e] = [72, 84, 84, 80, 47]
    · simp only [List.cons.injEq] at hp
      simp [hp.1, hp.2.1, hp.2.2.1, hp.2.2.2.1, hp.2.2.2.2.1]
    · have : (a == 72 && b == 84 && c == 84 && d == 80 && e == 47) = false := by
        rw [Bool.eq_false_iff]
        intro hh
        simp only [Bool.and_eq_true, beq_iff_eq] at hh
        exact hp (by simp [hh])
      rw [if_neg (by simpa using hp), this]; rfl
  · rename_i hno
    by_cases hp : l.take 5 = [72, 84, 84, 80, 47]
    · rw [if_pos hp]
      have e : l = l.take 5 ++ l.drop 5 := (List.take_append_drop 5 l).symm
      generalize l.drop 5 = r at e ⊢
      rw [hp] at e
      subst e
      simp only [Bool.true_and]
      split
      · rename_i f g h
        exact absurd rfl (hno 72 84 84 80 47 f g h)
      · rfl
    · rw [if_neg hp]; rfl
theorem version_f (v : ByteArray) : reqline_version.f v = some (verL (toL v)) := by
  rw [← ofL_toL v, toL_ofL]
  generalize toL v = l
  unfold reqline_version.f
  rw [cut_f, ver_cut]
  generalize cutL l = x
  obtain ⟨r, b⟩ := x
  simp only [Option.bind_some, size_ofL]
  cases b with
  | false => simp
  | true =>
    rw [if_pos rfl, Bool.true_and]
    match r with
    | [] => simp
    | [_] => simp
    | [_, _] => simp
    | [f, g, h] =>
      have b0 : bt (ofL [f, g, h]) 0 = (f.toNat : Int) := bt_ofL _ _
      have b1 : bt (ofL [f, g, h]) 1 = (g.toNat : Int) := bt_ofL _ _
      have b2 : bt (ofL [f, g, h]) 2 = (h.toNat : Int) := bt_ofL _ _
      rw [b0, b1, b2, dig_f, dig_f]
      rw [if_pos (by simp), if_pos (by simp), Option.bind_some]
      have hg : ((g.toNat : Int) = 46) ↔ g = 46 := u8_eq_nat g 46 (by omega)
      cases hf : digB f with
      | false => simp [hf]
      | true =>
        by_cases h46 : g = 46
        · rw [if_pos rfl, if_pos (by simp), if_pos (hg.2 h46), if_pos (by simp), Option.bind_some, h46]; simp [hf]
        · rw [if_pos rfl, if_pos (by simp), if_neg (fun hh => h46 (hg.1 hh))]; simp [h46]
    | _ :: _ :: _ :: _ :: r => rw [if_neg (by simp; omega)]

end Go.Proofs.YtiolgglipcijpaaDoor.RSpec
end

section
namespace Go.Proofs.YtiolgglipcijpaaDoor.RErr
open Go Go.RowKit Go.Extern.Stop Go.Stop Go.Extern

/-- the handle of errors.errorType. -/
def eT : Value := .iface 174 (.agg #[.pointer (some ⟨7, 26, none⟩)])

/-! closed facts on the model's entries for internal/reflectlite at this program's types: 104 Fault, 59 Status, 114 and 113 the pointers to them, 26 error, 174 rtype -/
theorem valueOf114 (t : Addr) (w : World) : (ReflectliteValue.unpack (.iface 114 (.pointer (some t)))).run Tryd.prog w
    = .ok (.agg #[.pointer (some ⟨7, 114, none⟩), .pointer (some ⟨w.heap.size, 0, none⟩), .int .u64 150]) (w.alloc (.cells #[.pointer (some t)] 114)) := by kernel_rfl
theorem valueOf113 (t : Addr) (w : World) : (ReflectliteValue.unpack (.iface 113 (.pointer (some t)))).run Tryd.prog w
    = .ok (.agg #[.pointer (some ⟨7, 113, none⟩), .pointer (some ⟨w.heap.size, 0, none⟩), .int .u64 150]) (w.alloc (.cells #[.pointer (some t)] 113)) := by kernel_rfl
theorem type114 (a : Addr) (w : World) : (ReflectliteValue.methodAny (ReflectliteValue.valueError "reflectlite.Value.Type" 0) (fun t _ _ _ => ReflectliteType.toType t) #[.agg #[.pointer (some ⟨7, 114, none⟩), .pointer (some a), .int .u64 150]]).run Tryd.prog w
    = .ok (.iface 174 (.agg #[.pointer (some ⟨7, 114, none⟩)])) w := by kernel_rfl
theorem type113 (a : Addr) (w : World) : (ReflectliteValue.methodAny (ReflectliteValue.valueError "reflectlite.Value.Type" 0) (fun t _ _ _ => ReflectliteType.toType t) #[.agg #[.pointer (some ⟨7, 113, none⟩), .pointer (some a), .int .u64 150]]).run Tryd.prog w
    = .ok (.iface 174 (.agg #[.pointer (some ⟨7, 113, none⟩)])) w := by kernel_rfl
theorem methodKind (h : Value) (w : World) : (Go.method 337 174 (.agg #[h]) "Kind").run Tryd.prog w = .ok (145, h) w := by kernel_rfl
theorem methodElem (h : Value) (w : World) : (Go.method 337 174 (.agg #[h]) "Elem").run Tryd.prog w = .ok (158, .agg #[h]) w := by kernel_rfl
theorem methodImplements (h : Value) (w : World) : (Go.method 337 174 (.agg #[h]) "Implements").run Tryd.prog w = .ok (159, .agg #[h]) w := by kernel_rfl
theorem methodAssignableTo (h : Value) (w : World) : (Go.method 337 174 (.agg #[h]) "AssignableTo").run Tryd.prog w = .ok (156, .agg #[h]) w := by kernel_rfl
theorem kind114 (w : World) : ((ReflectliteType.abiMethod fun t => (fun a : Nat => Value.int IntKind.u8 (a : Int)) <$> Rtype.kind t) #[.pointer (some ⟨7, 114, none⟩)]).run Tryd.prog w = .ok (.int .u8 22) w := by kernel_rfl
theorem kind113 (w : World) : ((ReflectliteType.abiMethod fun t => (fun a : Nat => Value.int IntKind.u8 (a : Int)) <$> Rtype.kind t) #[.pointer (some ⟨7, 113, none⟩)]).run Tryd.prog w = .ok (.int .u8 22) w := by kernel_rfl
theorem kind104 (w : World) : ((ReflectliteType.abiMethod fun t => (fun a : Nat => Value.int IntKind.u8 (a : Int)) <$> Rtype.kind t) #[.pointer (some ⟨7, 104, none⟩)]).run Tryd.prog w = .ok (.int .u8 25) w := by kernel_rfl
theorem kind59 (w : World) : ((ReflectliteType.abiMethod fun t => (fun a : Nat => Value.int IntKind.u8 (a : Int)) <$> Rtype.kind t) #[.pointer (some ⟨7, 59, none⟩)]).run Tryd.prog w = .ok (.int .u8 2) w := by kernel_rfl

theorem rlm (z : Sem Value) (f : TypeId → Addr → Nat → Nat → Sem Value) (v : Value) :
    ReflectliteValue.method z f #[v] = (do match ← ReflectliteValue.parts v with | none => z | some (t, a, fl) => f t a fl (fl % 32)) := rfl
theorem parts114 (a : Addr) (w : World) : (ReflectliteValue.parts (.agg #[.pointer (some ⟨7, 114, none⟩), .pointer (some a), .int .u64 150])).run Tryd.prog w = .ok (some (114, a, 150)) w := by kernel_rfl
theorem parts113 (a : Addr) (w : World) : (ReflectliteValue.parts (.agg #[.pointer (some ⟨7, 113, none⟩), .pointer (some a), .int .u64 150])).run Tryd.prog w = .ok (some (113, a, 150)) w := by kernel_rfl
theorem isNil114 (a p : Addr) (W : World) (ha : W.cell? a = some (.pointer (some p))) :
    (ReflectliteValue.method (ReflectliteValue.valueError "reflectlite.Value.IsNil" 0) ReflectliteValue.isNil #[.agg #[.pointer (some ⟨7, 114, none⟩), .pointer (some a), .int .u64 150]]).run Tryd.prog W = .ok (.bool false) W := by
  rw [rlm]
  simp only [Sem.run_bind, parts114, Result.andThen]
  simp [ReflectliteValue.isNil, loadVar, isAgg, underlying, Tryd.underlying114, ha, Result.andThen]
theorem isNil113 (a p : Addr) (W : World) (ha : W.cell? a = some (.pointer (some p))) :
    (ReflectliteValue.method (ReflectliteValue.valueError "reflectlite.Value.IsNil" 0) ReflectliteValue.isNil #[.agg #[.pointer (some ⟨7, 113, none⟩), .pointer (some a), .int .u64 150]]).run Tryd.prog W = .ok (.bool false) W := by
  rw [rlm]
  simp only [Sem.run_bind, parts113, Result.andThen]
  simp [ReflectliteValue.isNil, loadVar, isAgg, underlying, Tryd.underlying113, ha, Result.andThen]
theorem elem114 (w : World) : (ReflectliteType.method ReflectliteType.elem #[.agg #[.pointer (some ⟨7, 114, none⟩)]]).run Tryd.prog w = .ok (.iface 174 (.agg #[.pointer (some ⟨7, 104, none⟩)])) w := by kernel_rfl
theorem elem113 (w : World) : (ReflectliteType.method ReflectliteType.elem #[.agg #[.pointer (some ⟨7, 113, none⟩)]]).run Tryd.prog w = .ok (.iface 174 (.agg #[.pointer (some ⟨7, 59, none⟩)])) w := by kernel_rfl
theorem implements104 (w : World) : (ReflectliteType.relation "Implements" ReflectliteType.implements_ #[.agg #[.pointer (some ⟨7, 104, none⟩)], eT]).run Tryd.prog w = .ok (.bool true) w := by kernel_rfl
theorem implements59 (w : World) : (ReflectliteType.relation "Implements" ReflectliteType.implements_ #[.agg #[.pointer (some ⟨7, 59, none⟩)], eT]).run Tryd.prog w = .ok (.bool true) w := by kernel_rfl
theorem typeOf104 (v : Value) (w : World) : (ReflectliteType.typeOf #[.iface 104 v]).run Tryd.prog w = .ok (.iface 174 (.agg #[.pointer (some ⟨7, 104, none⟩)])) w := by kernel_rfl
theorem typeOf59 (v : Value) (w : World) : (ReflectliteType.typeOf #[.iface 59 v]).run Tryd.prog w = .ok (.iface 174 (.agg #[.pointer (some ⟨7, 59, none⟩)])) w := by kernel_rfl
theorem assign104 (w : World) : (ReflectliteType.relation "AssignableTo" ReflectliteType.assignableTo #[.agg #[.pointer (some ⟨7, 104, none⟩)], .iface 174 (.agg #[.pointer (some ⟨7, 104, none⟩)])]).run Tryd.prog w = .ok (.bool true) w := by kernel_rfl
theorem assign10459 (w : World) : (ReflectliteType.relation "AssignableTo" ReflectliteType.assignableTo #[.agg #[.pointer (some ⟨7, 104, none⟩)], .iface 174 (.agg #[.pointer (some ⟨7, 59, none⟩)])]).run Tryd.prog w = .ok (.bool false) w := by kernel_rfl
theorem assign59 (w : World) : (ReflectliteType.relation "AssignableTo" ReflectliteType.assignableTo #[.agg #[.pointer (some ⟨7, 59, none⟩)], .iface 174 (.agg #[.pointer (some ⟨7, 59, none⟩)])]).run Tryd.prog w = .ok (.bool true) w := by kernel_rfl
theorem valueOf104 (s n : Int) (w : World) : (ReflectliteValue.unpack (.iface 104 (.agg #[.int .i64 s, .int .i64 n]))).run Tryd.prog w
    = .ok (.agg #[.pointer (some ⟨7, 104, none⟩), .pointer (some ⟨w.heap.size, 0, none⟩), .int .u64 153]) (w.alloc (.cells #[.int .i64 s, .int .i64 n] 104)) := by kernel_rfl
theorem valueOf59 (s : Int) (w : World) : (ReflectliteValue.unpack (.iface 59 (.int .i64 s))).run Tryd.prog w
    = .ok (.agg #[.pointer (some ⟨7, 59, none⟩), .pointer (some ⟨w.heap.size, 0, none⟩), .int .u64 130]) (w.alloc (.cells #[.int .i64 s] 59)) := by kernel_rfl
theorem elemOf114 (w : World) : (Rtype.elem? 114).run Tryd.prog w = .ok (some 104) w := by kernel_rfl
theorem elemOf113 (w : World) : (Rtype.elem? 113).run Tryd.prog w = .ok (some 59) w := by kernel_rfl
theorem mk104 (p : Addr) (w : World) : (ReflectliteValue.mk 104 p ReflectliteValue.flagAddr).run Tryd.prog w = .ok (.agg #[.pointer (some ⟨7, 104, none⟩), .pointer (some p), .int .u64 409]) w := by kernel_rfl
theorem mk59 (p : Addr) (w : World) : (ReflectliteValue.mk 59 p ReflectliteValue.flagAddr).run Tryd.prog w = .ok (.agg #[.pointer (some ⟨7, 59, none⟩), .pointer (some p), .int .u64 386]) w := by kernel_rfl
theorem elemV114 (a p : Addr) (W : World) (ha : W.cell? a = some (.pointer (some p))) :
    (ReflectliteValue.method (ReflectliteValue.valueError "reflectlite.Value.Elem" 0) ReflectliteValue.elem #[.agg #[.pointer (some ⟨7, 114, none⟩), .pointer (some a), .int .u64 150]]).run Tryd.prog W
      = .ok (.agg #[.pointer (some ⟨7, 104, none⟩), .pointer (some p), .int .u64 409]) W := by
  rw [rlm]
  simp only [Sem.run_bind, parts114, Result.andThen]
  simp [ReflectliteValue.elem, loadVar, isAgg, underlying, Tryd.underlying114, ha, Result.andThen, elemOf114, mk104]
theorem elemV113 (a p : Addr) (W : World) (ha : W.cell? a = some (.pointer (some p))) :
    (ReflectliteValue.method (ReflectliteValue.valueError "reflectlite.Value.Elem" 0) ReflectliteValue.elem #[.agg #[.pointer (some ⟨7, 113, none⟩), .pointer (some a), .int .u64 150]]).run Tryd.prog W
      = .ok (.agg #[.pointer (some ⟨7, 59, none⟩), .pointer (some p), .int .u64 386]) W := by
  rw [rlm]
  simp only [Sem.run_bind, parts113, Result.andThen]
  simp [ReflectliteValue.elem, loadVar, isAgg, underlying, Tryd.underlying113, ha, Result.andThen, elemOf113, mk59]
theorem rls (v x : Value) : ReflectliteValue.set #[v, x] = (do
    let (some (dst, a, fl), some (src, b, _)) := (← ReflectliteValue.parts v, ← ReflectliteValue.parts x)
      | unsupported (.noEntry "extern/(internal/reflectlite.Value).Set.zeroValue")
    if fl / ReflectliteValue.flagAddr % 2 == 0 then unsupported (.noEntry "extern/(internal/reflectlite.Value).Set.unaddressable")
    let val ← loadVar src b
    if ← Rtype.directlyAssignable dst src then storeVar dst a val
    else if ← Rtype.implements dst src then
      if (← Rtype.kind src) == 20 then
        match val with
        | .nilIface => unsupported (.noEntry "extern/reflectlite: a nil value of one interface type handed on as a value of another")
        | _ => storeVar dst a val
      else storeVar dst a (.iface src val)
    else panicString ("reflectlite.Set: value of type " ++ (← Rtype.spelt src) ++ " is not assignable to type " ++ (← Rtype.spelt dst))
    pure (.tuple #[])) := rfl
theorem parts104a (a : Addr) (w : World) : (ReflectliteValue.parts (.agg #[.pointer (some ⟨7, 104, none⟩), .pointer (some a), .int .u64 409])).run Tryd.prog w = .ok (some (104, a, 409)) w := by kernel_rfl
theorem parts104 (a : Addr) (w : World) : (ReflectliteValue.parts (.agg #[.pointer (some ⟨7, 104, none⟩), .pointer (some a), .int .u64 153])).run Tryd.prog w = .ok (some (104, a, 153)) w := by kernel_rfl
theorem parts59a (a : Addr) (w : World) : (ReflectliteValue.parts (.agg #[.pointer (some ⟨7, 59, none⟩), .pointer (some a), .int .u64 386])).run Tryd.prog w = .ok (some (59, a, 386)) w := by kernel_rfl
theorem parts59 (a : Addr) (w : World) : (ReflectliteValue.parts (.agg #[.pointer (some ⟨7, 59, none⟩), .pointer (some a), .int .u64 130])).run Tryd.prog w = .ok (some (59, a, 130)) w := by kernel_rfl
theorem direct104 (w : World) : (Rtype.directlyAssignable 104 104).run Tryd.prog w = .ok true w := by kernel_rfl
theorem direct59 (w : World) : (Rtype.directlyAssignable 59 59).run Tryd.prog w = .ok true w := by kernel_rfl
/-- (Value).Set at a variable of Status. -/
theorem set59 (ta b : Addr) (s : Int) (old : Value) (W : World) (hb : W.cell? b = some (.int .i64 s)) (ht : W.cell? ta = some old) (hf : W.frozen? ta = false) :
    (ReflectliteValue.set #[.agg #[.pointer (some ⟨7, 59, none⟩), .pointer (some ta), .int .u64 386], .agg #[.pointer (some ⟨7, 59, none⟩), .pointer (some b), .int .u64 130]]).run Tryd.prog W
      = .ok (.tuple #[]) (W.setCell ta (.int .i64 s)) := by
  rw [rls]
  simp only [Sem.run_bind, parts59a, parts59, Result.andThen]
  simp [ReflectliteValue.flagAddr, loadVar, isAgg, underlying, Tryd.underlying59, hb, Result.andThen, direct59, storeVar, Value.cells, storeCells, Addr.add]
  rw [run_store Tryd.prog W ta _ _ (by rfl)]
  simp [ht, hf]

end Go.Proofs.YtiolgglipcijpaaDoor.RErr
end

section
namespace Go.Proofs.YtiolgglipcijpaaDoor.RErr
open Go Go.RowKit Go.Extern.Stop Go.Stop Go.Extern

theorem methodUnwrap (v : Value) (w : World) : (Go.method 337 104 v "Unwrap").run Tryd.prog w = .ok (150, v) w := by kernel_rfl
theorem Unwrap_calls (s n : Int) (w : World) : Calls Tryd.prog 150 #[.agg #[.int .i64 s, .int .i64 n]] w fun e w' => e = .returned (.iface 59 (.int .i64 s)) ∧ w' = w.alloc (.cells #[.int .i64 s, .int .i64 n] 104) := by
  go_enter Tryd.func150, Tryd.ntmps150
  go_wp2
  go_ret
  exact ⟨rfl, rfl⟩
theorem lacksAs (v : Value) (w : World) : (Instr.typeAssert (.iface 104 v) 26 179 true).run Tryd.prog w = .ok (.tuple #[.nilIface, .bool false]) w :=
  run_typeAssert_lacksB Tryd.underlying179 (by kernel_rfl) (by kernel_rfl) v 26 w
theorem hasUnwrap (v : Value) (w : World) : (Instr.typeAssert (.iface 104 v) 26 182 true).run Tryd.prog w = .ok (.tuple #[.iface 104 v, .bool true]) w :=
  run_typeAssert_hasB Tryd.underlying182 (by kernel_rfl) v 26 w

set_option maxHeartbeats 4000000 in
theorem as_status (s n : Int) (t : Addr) (old : Value) (w : World) (hg : w.cell? ⟨2, 0, none⟩ = some eT) (ht0 : w.cell? t = some old) (hf0 : w.frozen? t = false) :
    Calls Tryd.prog 59 #[.iface 104 (.agg #[.int .i64 s, .int .i64 n]), .iface 113 (.pointer (some t))] w fun ev w' => ev = .returned (.bool true) ∧ w' = (((((w.alloc (.cells #[.pointer (some t)] 113)).alloc (.cells #[.pointer (some ⟨7, 113, none⟩), .pointer (some ⟨w.heap.size, 0, none⟩), .int .u64 150] 147)).alloc (.cells #[.pointer (some ⟨7, 113, none⟩), .pointer (some ⟨w.heap.size, 0, none⟩), .int .u64 150] 147)).alloc (.cells #[.int .i64 s, .int .i64 n] 104)).alloc (.cells #[.int .i64 s] 59)).setCell t (.int .i64 s) := by
  have h6 := @run_callFunc_extern Tryd.prog 87 _ (fun args => ReflectliteValue.unpack (args.getD 0 (.tuple #[]))) Tryd.func87 (by kernel_rfl) (by kernel_rfl) (by kernel_rfl) (by kernel_rfl)
  have h7 := @run_callFunc_extern Tryd.prog 88 _ (ReflectliteValue.methodAny (ReflectliteValue.valueError "reflectlite.Value.Type" 0) (fun t _ _ _ => ReflectliteType.toType t)) Tryd.func88 (by kernel_rfl) (by kernel_rfl) (by kernel_rfl) (by kernel_rfl)
  have h8 := @run_callFunc_extern Tryd.prog 89 _ (ReflectliteValue.method (ReflectliteValue.valueError "reflectlite.Value.IsNil" 0) ReflectliteValue.isNil) Tryd.func89 (by kernel_rfl) (by kernel_rfl) (by kernel_rfl) (by kernel_rfl)
  have h27 := @run_callFunc_extern Tryd.prog 145 _ (ReflectliteType.abiMethod fun t => do pure (.int .u8 (← Rtype.kind t))) Tryd.func145 (by kernel_rfl) (by kernel_rfl) (by kernel_rfl) (by kernel_rfl)
  have h37 := @run_callFunc_extern Tryd.prog 158 _ (ReflectliteType.method ReflectliteType.elem) Tryd.func158 (by kernel_rfl) (by kernel_rfl) (by kernel_rfl) (by kernel_rfl)
  have h38 := @run_callFunc_extern Tryd.prog 159 _ (ReflectliteType.relation "Implements" ReflectliteType.implements_) Tryd.func159 (by kernel_rfl) (by kernel_rfl) (by kernel_rfl) (by kernel_rfl)
  have h10 := @run_callFunc_extern Tryd.prog 109 _ ReflectliteType.typeOf Tryd.func109 (by kernel_rfl) (by kernel_rfl) (by kernel_rfl) (by kernel_rfl)
  have h35 := @run_callFunc_extern Tryd.prog 156 _ (ReflectliteType.relation "AssignableTo" ReflectliteType.assignableTo) Tryd.func156 (by kernel_rfl) (by kernel_rfl) (by kernel_rfl) (by kernel_rfl)
  have h11 := @run_callFunc_extern Tryd.prog 110 _ (ReflectliteValue.method (ReflectliteValue.valueError "reflectlite.Value.Elem" 0) ReflectliteValue.elem) Tryd.func110 (by kernel_rfl) (by kernel_rfl) (by kernel_rfl) (by kernel_rfl)
  have h12 := @run_callFunc_extern Tryd.prog 111 _ ReflectliteValue.set Tryd.func111 (by kernel_rfl) (by kernel_rfl) (by kernel_rfl) (by kernel_rfl)
  have tO := typeOf104
  have tO2 := typeOf59
  have mA := methodAssignableTo
  have aF := assign10459
  have aT := assign59
  have v59 := valueOf59
  have f6 := valueOf113
  have f7 := type113
  have mK := methodKind
  have mE := methodElem
  have mI := methodImplements
  have k1 := kind113
  have k2 := kind59
  have e1 := elem113
  have i1 := implements59
  have lA := lacksAs
  have hU := hasUnwrap
  have mU := methodUnwrap
  unfold eT at i1 hg
  have n8 := isNil113 ⟨w.heap.size, 0, none⟩ t ((w.alloc (.cells #[.pointer (some t)] 113)).alloc (.cells #[.pointer (some ⟨7, 113, none⟩), .pointer (some ⟨w.heap.size, 0, none⟩), .int .u64 150] 147)) (by simp)
  have hlt : 2 < w.heap.size := World.block_lt_of_cell? w _ hg
  have hg2 : ((w.alloc (.cells #[.pointer (some t)] 113)).alloc (.cells #[.pointer (some ⟨7, 113, none⟩), .pointer (some ⟨w.heap.size, 0, none⟩), .int .u64 150] 147)).cell? ⟨2, 0, none⟩ = some (.iface 174 (.agg #[.pointer (some ⟨7, 26, none⟩)])) := by
    rw [World.cell?_alloc_lt _ _ ⟨2, 0, none⟩ (by simp; omega), World.cell?_alloc_lt _ _ ⟨2, 0, none⟩ hlt]; exact hg
  have htl : t.block < w.heap.size := World.block_lt_of_cell? w _ ht0
  have el := elemV113 ⟨w.heap.size, 0, none⟩ t ((((w.alloc (.cells #[.pointer (some t)] 113)).alloc (.cells #[.pointer (some ⟨7, 113, none⟩), .pointer (some ⟨w.heap.size, 0, none⟩), .int .u64 150] 147)).alloc (.cells #[.pointer (some ⟨7, 113, none⟩), .pointer (some ⟨w.heap.size, 0, none⟩), .int .u64 150] 147)).alloc (.cells #[.int .i64 s, .int .i64 n] 104)) (by rw [World.cell?_alloc_lt _ _ ⟨w.heap.size, 0, none⟩ (by simp; omega), World.cell?_alloc_lt _ _ ⟨w.heap.size, 0, none⟩ (by simp; omega)]; simp)
  have st := set59 t ⟨w.heap.size + 1 + 1 + 1 + 1, 0, none⟩ s old (((((w.alloc (.cells #[.pointer (some t)] 113)).alloc (.cells #[.pointer (some ⟨7, 113, none⟩), .pointer (some ⟨w.heap.size, 0, none⟩), .int .u64 150] 147)).alloc (.cells #[.pointer (some ⟨7, 113, none⟩), .pointer (some ⟨w.heap.size, 0, none⟩), .int .u64 150] 147)).alloc (.cells #[.int .i64 s, .int .i64 n] 104)).alloc (.cells #[.int .i64 s] 59))
    (by rw [World.cell?_alloc_at _ _ _ _ (by simp)]; rfl)
    (by rw [World.cell?_alloc_lt _ _ t (by simp; omega), World.cell?_alloc_lt _ _ t (by simp; omega), World.cell?_alloc_lt _ _ t (by simp; omega), World.cell?_alloc_lt _ _ t (by simp; omega), World.cell?_alloc_lt _ _ t htl]; exact ht0)
    (by rw [World.frozen?_alloc_old _ _ t (by simp; omega), World.frozen?_alloc_old _ _ t (by simp; omega), World.frozen?_alloc_old _ _ t (by simp; omega), World.frozen?_alloc_old _ _ t (by simp; omega), World.frozen?_alloc_old _ _ t (Nat.ne_of_lt htl)]; exact hf0)
  go_enter Tryd.func59, Tryd.ntmps59
  go_wp2
  refine wp_loop_rounds 2 ?_
  rw [rounds_succ]
  go_wp2_with (go_at_call 150; refine (Unwrap_calls s n _).mono ?_; rintro e w' ⟨rfl, rfl⟩)
  rw [rounds_succ]
  go_wp2
  go_ret
  exact ⟨rfl, rfl⟩
end Go.Proofs.YtiolgglipcijpaaDoor.RErr
end

section
namespace Go.Proofs.YtiolgglipcijpaaDoor.RErr
open Go Go.RowKit Go.Extern.Stop Go.Stop Go.Extern

theorem add0 (a : Addr) : a.add 0 = a := by simp [Addr.add]
theorem load104 (b : Addr) (s n : Int) (W : World) (hb : W.cell? b = some (.int .i64 s)) (hb1 : W.cell? (b.add 1) = some (.int .i64 n)) :
    (loadVar 104 b).run Tryd.prog W = .ok (.agg #[.int .i64 s, .int .i64 n]) W := by
  have ha : (isAgg 104).run Tryd.prog W = .ok true W := by kernel_rfl
  have hz : (sizeOf 104).run Tryd.prog W = .ok 2 W := by kernel_rfl
  simp [loadVar, ha, hz, loadCells, loadCellsFrom, add0, hb, hb1, Result.andThen]
theorem store104 (ta : Addr) (s n : Int) (o1 o2 : Value) (W : World) (ht : W.cell? ta = some o1) (ht1 : W.cell? (ta.add 1) = some o2) (hf : W.frozen? ta = false) (hf1 : W.frozen? (ta.add 1) = false) :
    (storeVar 104 ta (.agg #[.int .i64 s, .int .i64 n])).run Tryd.prog W = .ok () ((W.setCell ta (.int .i64 s)).setCell (ta.add 1) (.int .i64 n)) := by
  have hz : (sizeOf 104).run Tryd.prog W = .ok 2 W := by kernel_rfl
  have h1 : ∃ x, (W.setCell ta (.int .i64 s)).cell? (ta.add 1) = some x := by
    by_cases h : ta = ta.add 1
    · rw [← h]; exact ⟨_, World.cell?_setCell_same W ta _ ht⟩
    · rw [World.cell?_setCell_other (h := h)]; exact ⟨_, ht1⟩
  obtain ⟨x, hx⟩ := h1
  have h2 : (W.setCell ta (.int .i64 s)).frozen? (ta.add 1) = false := by rw [World.frozen?_setCell]; exact hf1
  simp only [storeVar, Value.cells, Sem.run_bind, hz, Result.andThen, storeCells, add0]
  simp [storeCells, Result.andThen]
  rw [run_store Tryd.prog W ta _ _ (by rfl)]
  simp [ht, hf]
  rw [run_store Tryd.prog _ (ta.add 1) _ _ (by rfl)]
  simp only [hx]
  simp [hf1]
/-- (Value).Set at a variable of Fault. -/
theorem set104 (ta b : Addr) (s n : Int) (o1 o2 : Value) (W : World) (hb : W.cell? b = some (.int .i64 s)) (hb1 : W.cell? (b.add 1) = some (.int .i64 n)) (ht : W.cell? ta = some o1) (ht1 : W.cell? (ta.add 1) = some o2) (hf : W.frozen? ta = false) (hf1 : W.frozen? (ta.add 1) = false) :
    (ReflectliteValue.set #[.agg #[.pointer (some ⟨7, 104, none⟩), .pointer (some ta), .int .u64 409], .agg #[.pointer (some ⟨7, 104, none⟩), .pointer (some b), .int .u64 153]]).run Tryd.prog W
      = .ok (.tuple #[]) ((W.setCell ta (.int .i64 s)).setCell (ta.add 1) (.int .i64 n)) := by
  rw [rls]
  have e1 : (storeVar 104 ta (.agg #[.int .i64 s, .int .i64 n])).run Tryd.prog W = .ok () ((W.setCell ta (.int .i64 s)).setCell (ta.add 1) (.int .i64 n)) := store104 ta s n o1 o2 W ht ht1 hf hf1
  have e2 : (409 / ReflectliteValue.flagAddr % 2 == 0) = false := by decide
  simp only [Sem.run_bind, parts104a, parts104, Result.andThen, e2, if_false, load104 b s n W hb hb1, direct104, if_true, e1, Bool.false_eq_true]
  rfl

set_option maxHeartbeats 4000000 in
theorem as_fault (s n : Int) (t : Addr) (o1 o2 : Value) (w : World) (hg : w.cell? ⟨2, 0, none⟩ = some eT) (ht0 : w.cell? t = some o1) (ht1 : w.cell? (t.add 1) = some o2) (hf0 : w.frozen? t = false) (hf1 : w.frozen? (t.add 1) = false) :
    Calls Tryd.prog 59 #[.iface 104 (.agg #[.int .i64 s, .int .i64 n]), .iface 114 (.pointer (some t))] w fun ev w' => ev = .returned (.bool true) ∧ w' = (((((w.alloc (.cells #[.pointer (some t)] 114)).alloc (.cells #[.pointer (some ⟨7, 114, none⟩), .pointer (some ⟨w.heap.size, 0, none⟩), .int .u64 150] 147)).alloc (.cells #[.pointer (some ⟨7, 114, none⟩), .pointer (some ⟨w.heap.size, 0, none⟩), .int .u64 150] 147)).alloc (.cells #[.int .i64 s, .int .i64 n] 104)).setCell t (.int .i64 s)).setCell (t.add 1) (.int .i64 n) := by
  have h6 := @run_callFunc_extern Tryd.prog 87 _ (fun args => ReflectliteValue.unpack (args.getD 0 (.tuple #[]))) Tryd.func87 (by kernel_rfl) (by kernel_rfl) (by kernel_rfl) (by kernel_rfl)
  have h7 := @run_callFunc_extern Tryd.prog 88 _ (ReflectliteValue.methodAny (ReflectliteValue.valueError "reflectlite.Value.Type" 0) (fun t _ _ _ => ReflectliteType.toType t)) Tryd.func88 (by kernel_rfl) (by kernel_rfl) (by kernel_rfl) (by kernel_rfl)
  have h8 := @run_callFunc_extern Tryd.prog 89 _ (ReflectliteValue.method (ReflectliteValue.valueError "reflectlite.Value.IsNil" 0) ReflectliteValue.isNil) Tryd.func89 (by kernel_rfl) (by kernel_rfl) (by kernel_rfl) (by kernel_rfl)
  have h27 := @run_callFunc_extern Tryd.prog 145 _ (ReflectliteType.abiMethod fun t => do pure (.int .u8 (← Rtype.kind t))) Tryd.func145 (by kernel_rfl) (by kernel_rfl) (by kernel_rfl) (by kernel_rfl)
  have h37 := @run_callFunc_extern Tryd.prog 158 _ (ReflectliteType.method ReflectliteType.elem) Tryd.func158 (by kernel_rfl) (by kernel_rfl) (by kernel_rfl) (by kernel_rfl)
  have h38 := @run_callFunc_extern Tryd.prog 159 _ (ReflectliteType.relation "Implements" ReflectliteType.implements_) Tryd.func159 (by kernel_rfl) (by kernel_rfl) (by kernel_rfl) (by kernel_rfl)
  have h10 := @run_callFunc_extern Tryd.prog 109 _ ReflectliteType.typeOf Tryd.func109 (by kernel_rfl) (by kernel_rfl) (by kernel_rfl) (by kernel_rfl)
  have h35 := @run_callFunc_extern Tryd.prog 156 _ (ReflectliteType.relation "AssignableTo" ReflectliteType.assignableTo) Tryd.func156 (by kernel_rfl) (by kernel_rfl) (by kernel_rfl) (by kernel_rfl)
  have h11 := @run_callFunc_extern Tryd.prog 110 _ (ReflectliteValue.method (ReflectliteValue.valueError "reflectlite.Value.Elem" 0) ReflectliteValue.elem) Tryd.func110 (by kernel_rfl) (by kernel_rfl) (by kernel_rfl) (by kernel_rfl)
  have h12 := @run_callFunc_extern Tryd.prog 111 _ ReflectliteValue.set Tryd.func111 (by kernel_rfl) (by kernel_rfl) (by kernel_rfl) (by kernel_rfl)
  have tO := typeOf104
  have mA := methodAssignableTo
  have aT := assign104
  have v104 := valueOf104
  have f6 := valueOf114
  have f7 := type114
  have mK := methodKind
  have mE := methodElem
  have mI := methodImplements
  have k1 := kind114
  have k2 := kind104
  have e1 := elem114
  have i1 := implements104
  unfold eT at i1 hg
  have n8 := isNil114 ⟨w.heap.size, 0, none⟩ t ((w.alloc (.cells #[.pointer (some t)] 114)).alloc (.cells #[.pointer (some ⟨7, 114, none⟩), .pointer (some ⟨w.heap.size, 0, none⟩), .int .u64 150] 147)) (by simp)
  have hlt : 2 < w.heap.size := World.block_lt_of_cell? w _ hg
  have hg2 : ((w.alloc (.cells #[.pointer (some t)] 114)).alloc (.cells #[.pointer (some ⟨7, 114, none⟩), .pointer (some ⟨w.heap.size, 0, none⟩), .int .u64 150] 147)).cell? ⟨2, 0, none⟩ = some (.iface 174 (.agg #[.pointer (some ⟨7, 26, none⟩)])) := by
    rw [World.cell?_alloc_lt _ _ ⟨2, 0, none⟩ (by simp; omega), World.cell?_alloc_lt _ _ ⟨2, 0, none⟩ hlt]; exact hg
  have htl : t.block < w.heap.size := World.block_lt_of_cell? w _ ht0
  have htl1 : (t.add 1).block < w.heap.size := World.block_lt_of_cell? w _ ht1
  have el := elemV114 ⟨w.heap.size, 0, none⟩ t (((w.alloc (.cells #[.pointer (some t)] 114)).alloc (.cells #[.pointer (some ⟨7, 114, none⟩), .pointer (some ⟨w.heap.size, 0, none⟩), .int .u64 150] 147)).alloc (.cells #[.pointer (some ⟨7, 114, none⟩), .pointer (some ⟨w.heap.size, 0, none⟩), .int .u64 150] 147)) (by rw [World.cell?_alloc_lt _ _ ⟨w.heap.size, 0, none⟩ (by simp; omega)]; simp)
  have st := set104 t ⟨w.heap.size + 1 + 1 + 1, 0, none⟩ s n o1 o2 ((((w.alloc (.cells #[.pointer (some t)] 114)).alloc (.cells #[.pointer (some ⟨7, 114, none⟩), .pointer (some ⟨w.heap.size, 0, none⟩), .int .u64 150] 147)).alloc (.cells #[.pointer (some ⟨7, 114, none⟩), .pointer (some ⟨w.heap.size, 0, none⟩), .int .u64 150] 147)).alloc (.cells #[.int .i64 s, .int .i64 n] 104))
    (by rw [World.cell?_alloc_at _ _ _ _ (by simp)]; rfl)
    (by rw [Addr.add_lit, World.cell?_alloc_at _ _ _ _ (by simp)]; rfl)
    (by rw [World.cell?_alloc_lt _ _ t (by simp; omega), World.cell?_alloc_lt _ _ t (by simp; omega), World.cell?_alloc_lt _ _ t (by simp; omega), World.cell?_alloc_lt _ _ t htl]; exact ht0)
    (by rw [World.cell?_alloc_lt _ _ (t.add 1) (by simp at htl1 ⊢; omega), World.cell?_alloc_lt _ _ (t.add 1) (by simp at htl1 ⊢; omega), World.cell?_alloc_lt _ _ (t.add 1) (by simp at htl1 ⊢; omega), World.cell?_alloc_lt _ _ (t.add 1) htl1]; exact ht1)
    (by rw [World.frozen?_alloc_old _ _ t (by simp; omega), World.frozen?_alloc_old _ _ t (by simp; omega), World.frozen?_alloc_old _ _ t (by simp; omega), World.frozen?_alloc_old _ _ t (Nat.ne_of_lt htl)]; exact hf0)
    (by rw [World.frozen?_alloc_old _ _ (t.add 1) (by simp at htl1 ⊢; omega), World.frozen?_alloc_old _ _ (t.add 1) (by simp at htl1 ⊢; omega), World.frozen?_alloc_old _ _ (t.add 1) (by simp at htl1 ⊢; omega), World.frozen?_alloc_old _ _ (t.add 1) (Nat.ne_of_lt htl1)]; exact hf1)
  go_enter Tryd.func59, Tryd.ntmps59
  go_wp2
  refine wp_loop_rounds 1 ?_
  rw [rounds_succ]
  go_wp2
  go_ret
  exact ⟨rfl, rfl⟩
end Go.Proofs.YtiolgglipcijpaaDoor.RErr
end

section
namespace Go.Proofs.YtiolgglipcijpaaDoor.P
open Go Go.RowKit Go.Proofs.YtiolgglipcijpaaDoorW.PrintWords Go.Proofs.YtiolgglipcijpaaDoor.RErr

/-- what the package-level variables hold that the code of this seat reads. -/
structure Glob (w : World) : Prop where
  err : w.cell? ⟨2, 0, none⟩ = some eT
  others : ∀ j (h : j < 6), w.cell? ⟨1, j, none⟩ = some (.string ([(⟨#[80, 79, 83, 84]⟩ : ByteArray), ⟨#[80, 85, 84]⟩, ⟨#[68, 69, 76, 69, 84, 69]⟩, ⟨#[80, 65, 84, 67, 72]⟩, ⟨#[84, 82, 65, 67, 69]⟩, ⟨#[67, 79, 78, 78, 69, 67, 84]⟩][j]))
  rules : ∀ j (h : j < 12), w.cell? ⟨0, j, none⟩ = some ([Value.int .i64 0, .func (.func 167) #[] #[], .int .i64 400, .int .i64 1, .func (.func 168) #[] #[], .int .i64 400, .int .i64 2, .func (.func 171) #[] #[], .int .i64 400, .int .i64 2, .func (.func 172) #[] #[], .int .i64 505][j])
  most : ∃ m : Int, w.cell? ⟨3, 0, none⟩ = some (.int .i64 m)
theorem Glob.below {w w' : World} (h : Glob w) (hb : Below w.heap.size w w') : Glob w' := by
  have hlt : ∀ {a : Addr} {v : Value}, w.cell? a = some v → w'.cell? a = some v := fun {a} {v} hc => by
    rw [hb.cell (World.block_lt_of_cell? w _ hc)]; exact hc
  obtain ⟨m, hm⟩ := h.most
  exact ⟨hlt h.err, fun j hj => hlt (h.others j hj), fun j hj => hlt (h.rules j hj), ⟨m, hlt hm⟩⟩

theorem as_nil (t : Value) (w : World) :
    Calls Tryd.prog 59 #[.nilIface, t] w fun e w' => e = .returned (.bool false) ∧ w' = w := by
  go_enter Tryd.func59, Tryd.ntmps59
  go_wp2
  go_ret
  exact ⟨rfl, rfl⟩

theorem Status_nil (w : World) : Calls Tryd.prog 34 #[.nilIface] w fun e w' => e = .returned (.tuple #[.int .i64 0, .bool false]) ∧ Below w.heap.size w w' := by
  go_enter Tryd.func34, Tryd.ntmps34
  go_wp2_with (go_at_call 59; refine (as_nil _ _).mono ?_; rintro e w' ⟨rfl, rfl⟩)
  go_ret2
  exact ⟨rfl, (Below.refl _ _).alloc (Nat.le_refl _) _⟩
theorem At_nil (w : World) : Calls Tryd.prog 35 #[.nilIface] w fun e w' => e = .returned (.tuple #[.int .i64 0, .bool false]) ∧ Below w.heap.size w w' := by
  go_enter Tryd.func35, Tryd.ntmps35
  go_wp2_with (go_at_call 59; refine (as_nil _ _).mono ?_; rintro e w' ⟨rfl, rfl⟩)
  go_ret2
  exact ⟨rfl, (Below.refl _ _).alloc (Nat.le_refl _) _⟩
theorem Status_some (s n : Int) (w : World) (hG : Glob w) : Calls Tryd.prog 34 #[.iface 104 (.agg #[.int .i64 s, .int .i64 n])] w fun e w' => e = .returned (.tuple #[.int .i64 s, .bool true]) ∧ Below w.heap.size w w' := by
  have hlt : 2 < w.heap.size := World.block_lt_of_cell? w _ hG.err
  go_enter Tryd.func34, Tryd.ntmps34
  go_wp2_with (go_at_call 59; refine (as_status s n ⟨w.heap.size, 0, none⟩ (.int .i64 0) _ (by rw [World.cell?_alloc_lt _ _ ⟨2, 0, none⟩ hlt]; exact hG.err) (by simp) (by simp)).mono ?_; rintro e w' ⟨rfl, rfl⟩)
  go_ret2
  exact ⟨rfl, below_alloc (below_alloc (below_alloc (below_alloc (below_alloc ((Below.refl _ _).alloc (Nat.le_refl _) _) _) _) _) _) _⟩
theorem At_some (s n : Int) (w : World) (hG : Glob w) : Calls Tryd.prog 35 #[.iface 104 (.agg #[.int .i64 s, .int .i64 n])] w fun e w' => e = .returned (.tuple #[.int .i64 n, .bool true]) ∧ Below w.heap.size w w' := by
  have hlt : 2 < w.heap.size := World.block_lt_of_cell? w _ hG.err
  go_enter Tryd.func35, Tryd.ntmps35
  go_wp2_with (go_at_call 59; refine (as_fault s n ⟨w.heap.size, 0, none⟩ (.int .i64 0) (.int .i64 0) _ (by rw [World.cell?_alloc_lt _ _ ⟨2, 0, none⟩ hlt]; exact hG.err) (by simp) (by simp [Addr.add]) (by simp) (by simp [Addr.add])).mono ?_; rintro e w' ⟨rfl, rfl⟩)
  go_ret2
  exact ⟨rfl, below_alloc (below_alloc (below_alloc (below_alloc ((Below.refl _ _).alloc (Nat.le_refl _) _) _) _) _) _⟩

def doorkeeperlaw10_wrong.f (e : Option Int) (s n : Int) : Option Bool := match e with
  | none => some false
  | some c => some (c % 1000 == s && c / 1000 == n)
theorem doorkeeperlaw10_wrong.calls (e0 : Option Int) (s n : Int) (r : Bool) (w : World) (h : doorkeeperlaw10_wrong.f e0 s n = some r) (hG : Glob w) :
    Calls Tryd.prog 14 #[errW e0, .int .i64 s, .int .i64 n] w fun e w' => e = .returned (.bool r) ∧ Below w.heap.size w w' := by
  cases e0 with
  | none =>
    obtain rfl : false = r := by simpa [doorkeeperlaw10_wrong.f] using h
    rw [errW_none]
    go_enter Tryd.func14, Tryd.ntmps14
    go_wp2_with (first | (go_at_call 34; refine (Status_nil _).mono ?_; rintro e w1 ⟨rfl, hb1⟩) | (go_at_call 35; refine (At_nil _).mono ?_; rintro e w2 ⟨rfl, hb2⟩))
    go_ret
    exact ⟨rfl, below_step hb1 hb2⟩
  | some c =>
    have hr : (c % 1000 == s && c / 1000 == n) = r := by simpa [doorkeeperlaw10_wrong.f] using h
    rw [errW_some]
    generalize c % 1000 = x at hr ⊢
    generalize c / 1000 = y at hr ⊢
    go_enter Tryd.func14, Tryd.ntmps14
    go_wp2_with (first | (go_at_call 34; refine (Status_some x y _ hG).mono ?_; rintro e w1 ⟨rfl, hb1⟩) | (go_at_call 35; refine (At_some x y _ (hG.below hb1)).mono ?_; rintro e w2 ⟨rfl, hb2⟩))
    all_goals (go_ret; exact ⟨by first | (rw [← hr]; simp; done) | (rw [← hr]; rename_i hx; simp [hx]; done), below_step hb1 hb2⟩)

end Go.Proofs.YtiolgglipcijpaaDoor.P
end

section
namespace Go.Proofs
open Go.Shelf
def Tryd.lays169_ren : Go.Shelf.Ren := ⟨fun | 169 => 56 | n => n, fun | 70 => 105 | 9 => 9 | 0 => 0 | 72 => 107 | 37 => 78 | 127 => 143 | 3 => 3 | 5 => 5 | n => n, fun | n => n⟩
theorem Tryd.lays169 : Go.Proofs.Lays.n169 Tryd.prog Tryd.lays169_ren := {
  mixed := by kernel_rfl
  f169 := Tryd.func56.trans (congrArg some (by kernel_rfl))
  t0 := Tryd.underlying0
  a0 := Tryd.isAgg0
  z0 := Tryd.sizeOf0
  v0 := Tryd.zeroValue0
  t3 := Tryd.underlying3
  a3 := Tryd.isAgg3
  z3 := Tryd.sizeOf3
  v3 := Tryd.zeroValue3
  t9 := Tryd.underlying9
  a9 := Tryd.isAgg9
  z9 := Tryd.sizeOf9
  v9 := Tryd.zeroValue9
  t37 := Tryd.underlying78
  a37 := Tryd.isAgg78
  z37 := Tryd.sizeOf78
  v37 := Tryd.zeroValue78
  t70 := Tryd.underlying105
  a70 := Tryd.isAgg105
  z70 := Tryd.sizeOf105
  v70 := Tryd.zeroValue105
  t72 := Tryd.underlying107
  a72 := Tryd.isAgg107
  z72 := Tryd.sizeOf107
  v72 := Tryd.zeroValue107
  t127 := Tryd.underlying143
  a127 := Tryd.isAgg143
  z127 := Tryd.sizeOf143
  v127 := Tryd.zeroValue143 }
theorem Tryd.Builder_Extra_169 : Builder.Extra Tryd.prog Tryd.lays169_ren := {
  sizeBuilder := by kernel_rfl
  liesBuilder := by kernel_rfl
  t5 := Tryd.underlying5
  a5 := Tryd.isAgg5
  z5 := Tryd.sizeOf5
  v5 := Tryd.zeroValue5
  infoByte := by kernel_rfl
  cellsByte := by kernel_rfl
  sizeByte := by kernel_rfl
  neB5 := by decide }
open Go.RowKit in
/-- (*strings.Builder).String: "String returns the accumulated string.": OF A BUILDER THAT HOLDS AT LEAST ONE BYTE. ✋ THE MODEL FREEZES THOSE BYTES IN THE BUFFER (unsafe.String): a later write INTO them ends the model's run without an answer; a later append BEHIND them goes on. The statement's order of evaluation is drawn: one draw. (LAID: no walk: one application.) -/
theorem Tryd.Builder_String (B b : Nat) (l : List UInt8) (w : World) (h : Lib.IsBuilder 107 5 B b (Lib.byteCells l) w) (h0 : l ≠ []) :
    Calls Tryd.prog 56 #[.pointer (some ⟨b, 0, none⟩)] w fun e w' => e = .returned (.string ⟨l.toArray⟩) ∧ Below B w w' := Any.Builder_String Tryd.lays169 Tryd.Builder_Extra_169 B b l w h h0
open Go.RowKit in
/-- (*strings.Builder).String OF A BUILDER THAT HOLDS NO BYTE: the empty string. (Its buffer is nil, or a row of which it has taken nothing yet; where that row has NO capacity the model lays one new block for unsafe.SliceData's 'some address'.) One draw. (LAID: no walk: one application.) -/
theorem Tryd.Builder_String_empty (B b : Nat) (w : World) (h : Lib.IsBuilder 107 5 B b [] w) (hBw : B ≤ w.heap.size) :
    Calls Tryd.prog 56 #[.pointer (some ⟨b, 0, none⟩)] w fun e w' => e = .returned (.string ⟨#[]⟩) ∧ Below B w w' := Any.Builder_String_empty Tryd.lays169 Tryd.Builder_Extra_169 B b w h hBw
open Go.RowKit in
/-- (*strings.Builder).String: "String returns the accumulated string.": WHATEVER THE BUILDER HOLDS. (LAID: no walk: one application.) -/
theorem Tryd.Builder_String_any (B b : Nat) (l : List UInt8) (w : World) (h : Lib.IsBuilder 107 5 B b (Lib.byteCells l) w) (hBw : B ≤ w.heap.size) :
    Calls Tryd.prog 56 #[.pointer (some ⟨b, 0, none⟩)] w fun e w' => e = .returned (.string ⟨l.toArray⟩) ∧ Below B w w' := Any.Builder_String_any Tryd.lays169 Tryd.Builder_Extra_169 B b l w h hBw
def Tryd.lays241_ren : Go.Shelf.Ren := ⟨fun | 241 => 86 | 277 => 108 | n => n, fun | 70 => 105 | 3 => 3 | 0 => 0 | 72 => 107 | 37 => 78 | 5 => 5 | n => n, fun | n => n⟩
theorem Tryd.lays241 : Go.Proofs.Lays.n241 Tryd.prog Tryd.lays241_ren := {
  mixed := by kernel_rfl
  f241 := Tryd.func86.trans (congrArg some (by kernel_rfl))
  f277 := Tryd.func108.trans (congrArg some (by kernel_rfl))
  t0 := Tryd.underlying0
  a0 := Tryd.isAgg0
  z0 := Tryd.sizeOf0
  v0 := Tryd.zeroValue0
  t3 := Tryd.underlying3
  a3 := Tryd.isAgg3
  z3 := Tryd.sizeOf3
  v3 := Tryd.zeroValue3
  t37 := Tryd.underlying78
  a37 := Tryd.isAgg78
  z37 := Tryd.sizeOf78
  v37 := Tryd.zeroValue78
  t70 := Tryd.underlying105
  a70 := Tryd.isAgg105
  z70 := Tryd.sizeOf105
  v70 := Tryd.zeroValue105
  t72 := Tryd.underlying107
  a72 := Tryd.isAgg107
  z72 := Tryd.sizeOf107
  v72 := Tryd.zeroValue107 }
theorem Tryd.Builder_Extra_241 : Builder.Extra Tryd.prog Tryd.lays241_ren := {
  sizeBuilder := by kernel_rfl
  liesBuilder := by kernel_rfl
  t5 := Tryd.underlying5
  a5 := Tryd.isAgg5
  z5 := Tryd.sizeOf5
  v5 := Tryd.zeroValue5
  infoByte := by kernel_rfl
  cellsByte := by kernel_rfl
  sizeByte := by kernel_rfl
  neB5 := by decide }
open Go.RowKit in
/-- (*strings.Builder).grow (no doc but "grow copies the buffer to a new, larger buffer so that there are at least n bytes of capacity beyond len(b.buf)."): AT A BUILDER WITHOUT A BUFFER: a new row of whatever bytes for its buffer, none of them its own yet. Three draws. (LAID: no walk: one application.) -/
theorem Tryd.Builder_grow_fresh (B b n : Nat) (w : World) (hB : B ≤ b) (hbk : w.heap[b]? = some (.cells #[.pointer (some ⟨b, 0, none⟩), .slice none 0 0] 107 (0, 0))) (hBw : B ≤ w.heap.size) (hn : n ≤ 281474976710656) :
    Calls Tryd.prog 86 #[.pointer (some ⟨b, 0, none⟩), .int .i64 n] w fun e w' => e = .returned (.tuple #[]) ∧ (Lib.BuilderAt 107 5 B b (.pointer (some ⟨b, 0, none⟩)) [] w' ∧ Below B w w') := Any.Builder_grow_fresh Tryd.lays241 Tryd.Builder_Extra_241 B b n w hB hbk hBw hn
def Tryd.lays165_ren : Go.Shelf.Ren := ⟨fun | 165 => 54 | 240 => 85 | 241 => 86 | 276 => 107 | 277 => 108 | n => n, fun | 70 => 105 | 3 => 3 | 0 => 0 | 4 => 4 | 9 => 9 | 20 => 20 | 72 => 107 | 37 => 78 | 164 => 144 | 5 => 5 | n => n, fun | n => n⟩
theorem Tryd.lays165 : Go.Proofs.Lays.n165 Tryd.prog Tryd.lays165_ren := {
  mixed := by kernel_rfl
  f165 := Tryd.func54.trans (congrArg some (by kernel_rfl))
  f240 := Tryd.func85.trans (congrArg some (by kernel_rfl))
  f241 := Tryd.func86.trans (congrArg some (by kernel_rfl))
  f276 := Tryd.func107.trans (congrArg some (by kernel_rfl))
  f277 := Tryd.func108.trans (congrArg some (by kernel_rfl))
  t0 := Tryd.underlying0
  a0 := Tryd.isAgg0
  z0 := Tryd.sizeOf0
  v0 := Tryd.zeroValue0
  t3 := Tryd.underlying3
  a3 := Tryd.isAgg3
  z3 := Tryd.sizeOf3
  v3 := Tryd.zeroValue3
  t4 := Tryd.underlying4
  a4 := Tryd.isAgg4
  z4 := Tryd.sizeOf4
  v4 := Tryd.zeroValue4
  t9 := Tryd.underlying9
  a9 := Tryd.isAgg9
  z9 := Tryd.sizeOf9
  v9 := Tryd.zeroValue9
  t20 := Tryd.underlying20
  a20 := Tryd.isAgg20
  z20 := Tryd.sizeOf20
  v20 := Tryd.zeroValue20
  t37 := Tryd.underlying78
  a37 := Tryd.isAgg78
  z37 := Tryd.sizeOf78
  v37 := Tryd.zeroValue78
  t70 := Tryd.underlying105
  a70 := Tryd.isAgg105
  z70 := Tryd.sizeOf105
  v70 := Tryd.zeroValue105
  t72 := Tryd.underlying107
  a72 := Tryd.isAgg107
  z72 := Tryd.sizeOf107
  v72 := Tryd.zeroValue107
  t164 := Tryd.underlying144
  a164 := Tryd.isAgg144
  z164 := Tryd.sizeOf144
  v164 := Tryd.zeroValue144 }
theorem Tryd.Builder_Extra_165 : Builder.Extra Tryd.prog Tryd.lays165_ren := {
  sizeBuilder := by kernel_rfl
  liesBuilder := by kernel_rfl
  t5 := Tryd.underlying5
  a5 := Tryd.isAgg5
  z5 := Tryd.sizeOf5
  v5 := Tryd.zeroValue5
  infoByte := by kernel_rfl
  cellsByte := by kernel_rfl
  sizeByte := by kernel_rfl
  neB5 := by decide }
open Go.RowKit in
/-- (*strings.Builder).Grow AT A BUILDER THAT HAS NOT BEEN WRITTEN ('var b strings.Builder; b.Grow(n)'): "Grow grows b's capacity, if necessary, to guarantee space for another n bytes.": it holds no byte behind it as before it. (LAID: no walk: one application.) -/
theorem Tryd.Builder_Grow_fresh (B b n : Nat) (w : World) (hB : B ≤ b) (hbk : w.heap[b]? = some (.cells #[.pointer none, .slice none 0 0] 107 (0, 0))) (hBw : B ≤ w.heap.size) (hn : n ≤ 281474976710656) :
    Calls Tryd.prog 54 #[.pointer (some ⟨b, 0, none⟩), .int .i64 n] w fun e w' => e = .returned (.tuple #[]) ∧ (Lib.BuilderAt 107 5 B b (.pointer (some ⟨b, 0, none⟩)) [] w' ∧ Below B w w') := Any.Builder_Grow_fresh Tryd.lays165 Tryd.Builder_Extra_165 B b n w hB hbk hBw hn
def Tryd.lays156_ren : Go.Shelf.Ren := ⟨fun | 156 => 31 | 165 => 54 | 166 => 55 | 169 => 56 | 240 => 85 | 241 => 86 | 276 => 107 | 277 => 108 | n => n, fun | 31 => 38 | 9 => 9 | 3 => 3 | 4 => 4 | 0 => 0 | 20 => 20 | 72 => 107 | 76 => 109 | 70 => 105 | 37 => 78 | 75 => 26 | 127 => 143 | 164 => 144 | 5 => 5 | 80 => 111 | n => n, fun | n => n⟩
theorem Tryd.lays156 : Go.Proofs.Lays.n156 Tryd.prog Tryd.lays156_ren := {
  mixed := by kernel_rfl
  f156 := Tryd.func31.trans (congrArg some (by kernel_rfl))
  f165 := Tryd.func54.trans (congrArg some (by kernel_rfl))
  f166 := Tryd.func55.trans (congrArg some (by kernel_rfl))
  f169 := Tryd.func56.trans (congrArg some (by kernel_rfl))
  f240 := Tryd.func85.trans (congrArg some (by kernel_rfl))
  f241 := Tryd.func86.trans (congrArg some (by kernel_rfl))
  f276 := Tryd.func107.trans (congrArg some (by kernel_rfl))
  f277 := Tryd.func108.trans (congrArg some (by kernel_rfl))
  t0 := Tryd.underlying0
  a0 := Tryd.isAgg0
  z0 := Tryd.sizeOf0
  v0 := Tryd.zeroValue0
  t3 := Tryd.underlying3
  a3 := Tryd.isAgg3
  z3 := Tryd.sizeOf3
  v3 := Tryd.zeroValue3
  t4 := Tryd.underlying4
  a4 := Tryd.isAgg4
  z4 := Tryd.sizeOf4
  v4 := Tryd.zeroValue4
  t9 := Tryd.underlying9
  a9 := Tryd.isAgg9
  z9 := Tryd.sizeOf9
  v9 := Tryd.zeroValue9
  t20 := Tryd.underlying20
  a20 := Tryd.isAgg20
  z20 := Tryd.sizeOf20
  v20 := Tryd.zeroValue20
  t31 := Tryd.underlying38
  a31 := Tryd.isAgg38
  z31 := Tryd.sizeOf38
  v31 := Tryd.zeroValue38
  t37 := Tryd.underlying78
  a37 := Tryd.isAgg78
  z37 := Tryd.sizeOf78
  v37 := Tryd.zeroValue78
  t70 := Tryd.underlying105
  a70 := Tryd.isAgg105
  z70 := Tryd.sizeOf105
  v70 := Tryd.zeroValue105
  t72 := Tryd.underlying107
  a72 := Tryd.isAgg107
  z72 := Tryd.sizeOf107
  v72 := Tryd.zeroValue107
  t75 := Tryd.underlying26
  a75 := Tryd.isAgg26
  z75 := Tryd.sizeOf26
  v75 := Tryd.zeroValue26
  t76 := Tryd.underlying109
  a76 := Tryd.isAgg109
  z76 := Tryd.sizeOf109
  v76 := Tryd.zeroValue109
  t127 := Tryd.underlying143
  a127 := Tryd.isAgg143
  z127 := Tryd.sizeOf143
  v127 := Tryd.zeroValue143
  t164 := Tryd.underlying144
  a164 := Tryd.isAgg144
  z164 := Tryd.sizeOf144
  v164 := Tryd.zeroValue144 }
theorem Tryd.Builder_Extra_156 : Builder.Extra Tryd.prog Tryd.lays156_ren := {
  sizeBuilder := by kernel_rfl
  liesBuilder := by kernel_rfl
  t5 := Tryd.underlying5
  a5 := Tryd.isAgg5
  z5 := Tryd.sizeOf5
  v5 := Tryd.zeroValue5
  infoByte := by kernel_rfl
  cellsByte := by kernel_rfl
  sizeByte := by kernel_rfl
  neB5 := by decide }
open Go.RowKit in
/-- No element: the empty string; the world is as it was. (Whatever the slice's address and capacity: a nil slice too.) (LAID: no walk: one application.) -/
theorem Tryd.strings_Join_none (a : Option Addr) (c : Nat) (sep : ByteArray) (w : World) :
    Calls Tryd.prog 31 #[.slice a 0 c, .string sep] w fun e w' => e = .returned (.string ⟨#[]⟩) ∧ w' = w := Any.strings_Join_none Tryd.lays156 Tryd.Builder_Extra_156 a c sep w
open Go.RowKit in
/-- strings.Join: "Join concatenates the elements of its first argument to create a single string. The separator string sep is placed between elements in the resulting string.": HOWEVER MANY ELEMENTS. Below the heap's end the world is as it was. (LAID: no walk: one application.) -/
theorem Tryd.strings_Join (bk o c : Nat) (xs : List ByteArray) (sep : ByteArray) (w : World) (hcells : ∀ (j : Nat) x, xs[j]? = some x → w.cell? ⟨bk, o + j, none⟩ = some (.string x)) (hbk : bk < w.heap.size) (hN : xs.length ≤ 140737488355328) (hcap : xs.length ≤ c) (hlen : (Lib.join (xs.map (·.data.toList)) sep.data.toList).length ≤ 140737488355328) :
    Calls Tryd.prog 31 #[.slice (some ⟨bk, o, none⟩) xs.length c, .string sep] w fun e w' => e = .returned (.string ⟨(Lib.join (xs.map (·.data.toList)) sep.data.toList).toArray⟩) ∧ Below w.heap.size w w' := Any.strings_Join Tryd.lays156 Tryd.Builder_Extra_156 bk o c xs sep w hcells hbk hN hcap hlen
def Tryd.lays231_ren : Go.Shelf.Ren := ⟨fun | 231 => 65 | n => n, fun | 9 => 9 | 5 => 5 | 3 => 3 | 4 => 4 | n => n, fun | n => n⟩
theorem Tryd.lays231 : Go.Proofs.Lays.n231 Tryd.prog Tryd.lays231_ren := {
  mixed := by kernel_rfl
  f231 := Tryd.func65.trans (congrArg some (by kernel_rfl))
  t3 := Tryd.underlying3
  a3 := Tryd.isAgg3
  z3 := Tryd.sizeOf3
  v3 := Tryd.zeroValue3
  t4 := Tryd.underlying4
  a4 := Tryd.isAgg4
  z4 := Tryd.sizeOf4
  v4 := Tryd.zeroValue4
  t5 := Tryd.underlying5
  a5 := Tryd.isAgg5
  z5 := Tryd.sizeOf5
  v5 := Tryd.zeroValue5
  t9 := Tryd.underlying9
  a9 := Tryd.isAgg9
  z9 := Tryd.sizeOf9
  v9 := Tryd.zeroValue9 }
open Go.RowKit in
/-- strings.trimLeftByte (no doc; what TrimLeft and Trim call at a cutset of one ASCII byte): the leading bytes that are c are cut off. The world is as it was. (LAID: no walk: one application.) -/
theorem Tryd.strings_trimLeftByte (s : ByteArray) (c : UInt8) (w : World) :
    Calls Tryd.prog 65 #[.string s, .int .u8 c.toNat] w fun e w' => e = .returned (.string ⟨(Lib.trimLeftB s.data.toList c).toArray⟩) ∧ w' = w := Any.strings_trimLeftByte Tryd.lays231 s c w
def Tryd.lays161_ren : Go.Shelf.Ren := ⟨fun | 161 => 41 | 231 => 65 | 227 => 66 | 233 => 67 | 235 => 68 | 228 => 95 | 197 => 96 | 151 => 97 | 260 => 119 | 152 => 120 | 137 => 64 | 119 => 128 | 224 => 115 | 225 => 114 | 217 => 94 | 266 => 118 | n => n, fun | 9 => 9 | 4 => 4 | 3 => 3 | 5 => 5 | 117 => 124 | 116 => 123 | 0 => 0 | 124 => 127 | 105 => 158 | 21 => 21 | 119 => 202 | 46 => 120 | 139 => 205 | 138 => 204 | n => n, fun | 3 => 5 | 4 => 6 | n => n⟩
theorem Tryd.lays161 : Go.Proofs.Lays.n161 Tryd.prog Tryd.lays161_ren := {
  mixed := by kernel_rfl
  f119 := Tryd.func128.trans (congrArg some (by kernel_rfl))
  f137 := Tryd.func64.trans (congrArg some (by kernel_rfl))
  f151 := Tryd.func97.trans (congrArg some (by kernel_rfl))
  f152 := Tryd.func120.trans (congrArg some (by kernel_rfl))
  f161 := Tryd.func41.trans (congrArg some (by kernel_rfl))
  f197 := Tryd.func96.trans (congrArg some (by kernel_rfl))
  f217 := Tryd.func94.trans (congrArg some (by kernel_rfl))
  f224 := Tryd.func115.trans (congrArg some (by kernel_rfl))
  f225 := Tryd.func114.trans (congrArg some (by kernel_rfl))
  f227 := Tryd.func66.trans (congrArg some (by kernel_rfl))
  f228 := Tryd.func95.trans (congrArg some (by kernel_rfl))
  f231 := Tryd.func65.trans (congrArg some (by kernel_rfl))
  f233 := Tryd.func67.trans (congrArg some (by kernel_rfl))
  f235 := Tryd.func68.trans (congrArg some (by kernel_rfl))
  f260 := Tryd.func119.trans (congrArg some (by kernel_rfl))
  f266 := Tryd.func118.trans (congrArg some (by kernel_rfl))
  t0 := Tryd.underlying0
  a0 := Tryd.isAgg0
  z0 := Tryd.sizeOf0
  v0 := Tryd.zeroValue0
  t3 := Tryd.underlying3
  a3 := Tryd.isAgg3
  z3 := Tryd.sizeOf3
  v3 := Tryd.zeroValue3
  t4 := Tryd.underlying4
  a4 := Tryd.isAgg4
  z4 := Tryd.sizeOf4
  v4 := Tryd.zeroValue4
  t5 := Tryd.underlying5
  a5 := Tryd.isAgg5
  z5 := Tryd.sizeOf5
  v5 := Tryd.zeroValue5
  t9 := Tryd.underlying9
  a9 := Tryd.isAgg9
  z9 := Tryd.sizeOf9
  v9 := Tryd.zeroValue9
  t21 := Tryd.underlying21
  a21 := Tryd.isAgg21
  z21 := Tryd.sizeOf21
  v21 := Tryd.zeroValue21
  t46 := Tryd.underlying120
  a46 := Tryd.isAgg120
  z46 := Tryd.sizeOf120
  v46 := Tryd.zeroValue120
  t105 := Tryd.underlying158
  a105 := Tryd.isAgg158
  z105 := Tryd.sizeOf158
  v105 := Tryd.zeroValue158
  t116 := Tryd.underlying123
  a116 := Tryd.isAgg123
  z116 := Tryd.sizeOf123
  t117 := Tryd.underlying124
  a117 := Tryd.isAgg124
  z117 := Tryd.sizeOf124
  v117 := Tryd.zeroValue124
  t119 := Tryd.underlying202
  a119 := Tryd.isAgg202
  z119 := Tryd.sizeOf202
  t124 := Tryd.underlying127
  a124 := Tryd.isAgg127
  z124 := Tryd.sizeOf127
  v124 := Tryd.zeroValue127
  t138 := Tryd.underlying204
  a138 := Tryd.isAgg204
  z138 := Tryd.sizeOf204
  v138 := Tryd.zeroValue204
  t139 := Tryd.underlying205
  a139 := Tryd.isAgg205
  z139 := Tryd.sizeOf205
  v139 := Tryd.zeroValue205
  g3 := by kernel_rfl
  g4 := by kernel_rfl }
open Go.RowKit in
/-- strings.TrimLeft: "TrimLeft returns a slice of the string s with all leading Unicode code points contained in cutset removed.": AT A cutset OF ONE ASCII BYTE. The world is as it was. (LAID: no walk: one application.) -/
theorem Tryd.strings_TrimLeft_one (s : ByteArray) (c : UInt8) (hc : c.toNat < 128) (w : World) :
    Calls Tryd.prog 41 #[.string s, .string ⟨#[c]⟩] w fun e w' => e = .returned (.string ⟨(Lib.trimLeftB s.data.toList c).toArray⟩) ∧ w' = w := Any.strings_TrimLeft_one Tryd.lays161 s c hc w
def Tryd.lays119_ren : Go.Shelf.Ren := ⟨fun | 119 => 128 | n => n, fun | 21 => 21 | 4 => 4 | n => n, fun | n => n⟩
theorem Tryd.lays119 : Go.Proofs.Lays.n119 Tryd.prog Tryd.lays119_ren := {
  mixed := by kernel_rfl
  f119 := Tryd.func128.trans (congrArg some (by kernel_rfl))
  t4 := Tryd.underlying4
  a4 := Tryd.isAgg4
  z4 := Tryd.sizeOf4
  v4 := Tryd.zeroValue4
  t21 := Tryd.underlying21
  a21 := Tryd.isAgg21
  z21 := Tryd.sizeOf21
  v21 := Tryd.zeroValue21 }
/-- utf8.ValidRune: "ValidRune reports whether r can be legally encoded as UTF-8. Code points that are out of range or a surrogate half are illegal.": IT RETURNS 'Lib.validRune r'; the world is as it was. (LAID: no walk: one application.) -/
theorem Tryd.utf8_ValidRune (r : Int) (w : World) :
    Calls Tryd.prog 128 #[.int .i32 r] w fun e w' => e = .returned (.bool (Lib.validRune r)) ∧ w' = w := Any.utf8_ValidRune Tryd.lays119 r w
def Tryd.lays137_ren : Go.Shelf.Ren := ⟨fun | 137 => 64 | 217 => 94 | 266 => 118 | n => n, fun | 9 => 9 | 5 => 5 | 3 => 3 | n => n, fun | n => n⟩
theorem Tryd.lays137 : Go.Proofs.Lays.n137 Tryd.prog Tryd.lays137_ren := {
  mixed := by kernel_rfl
  f137 := Tryd.func64.trans (congrArg some (by kernel_rfl))
  f217 := Tryd.func94.trans (congrArg some (by kernel_rfl))
  f266 := Tryd.func118.trans (congrArg some (by kernel_rfl))
  t3 := Tryd.underlying3
  a3 := Tryd.isAgg3
  z3 := Tryd.sizeOf3
  v3 := Tryd.zeroValue3
  t5 := Tryd.underlying5
  a5 := Tryd.isAgg5
  z5 := Tryd.sizeOf5
  v5 := Tryd.zeroValue5
  t9 := Tryd.underlying9
  a9 := Tryd.isAgg9
  z9 := Tryd.sizeOf9
  v9 := Tryd.zeroValue9 }
open Go.RowKit in
/-- strings.IndexByte: "IndexByte returns the index of the first instance of c in s, or -1 if c is not present in s.": IT RETURNS 'Lib.indexByte s c'; the world is as it was. (LAID: no walk: one application.) -/
theorem Tryd.strings_IndexByte (s : ByteArray) (c : Int) (w : World) :
    Calls Tryd.prog 64 #[.string s, .int .u8 c] w fun e w' => e = .returned (.int .i64 (Lib.indexByte s.data.toList c.toNat.toUInt8)) ∧ w' = w := Any.strings_IndexByte Tryd.lays137 s c w
def Tryd.lays210_ren : Go.Shelf.Ren := ⟨fun | 210 => 177 | 206 => 179 | n => n, fun | 9 => 9 | 4 => 4 | 3 => 3 | n => n, fun | n => n⟩
theorem Tryd.lays210 : Go.Proofs.Lays.n210 Tryd.prog Tryd.lays210_ren := {
  mixed := by kernel_rfl
  f206 := Tryd.func179.trans (congrArg some (by kernel_rfl))
  f210 := Tryd.func177.trans (congrArg some (by kernel_rfl))
  t3 := Tryd.underlying3
  a3 := Tryd.isAgg3
  z3 := Tryd.sizeOf3
  v3 := Tryd.zeroValue3
  t4 := Tryd.underlying4
  a4 := Tryd.isAgg4
  z4 := Tryd.sizeOf4
  v4 := Tryd.zeroValue4
  t9 := Tryd.underlying9
  a9 := Tryd.isAgg9
  z9 := Tryd.sizeOf9
  v9 := Tryd.zeroValue9 }
open Go.RowKit in
/-- internal/stringslite.CutPrefix (what strings.CutPrefix calls). (LAID: no walk: one application.) -/
theorem Tryd.stringslite_CutPrefix (s p : ByteArray) (w : World) :
    Calls Tryd.prog 177 #[.string s, .string p] w fun e w' => e = .returned (.tuple #[.string ⟨(Lib.trimPrefix s.data.toList p.data.toList).toArray⟩, .bool (Lib.hasPrefix s.data.toList p.data.toList)]) ∧ w' = w := Any.stringslite_CutPrefix Tryd.lays210 s p w
def Tryd.lays103_ren : Go.Shelf.Ren := ⟨fun | 103 => 174 | 210 => 177 | 206 => 179 | n => n, fun | 9 => 9 | 4 => 4 | 24 => 199 | 3 => 3 | n => n, fun | n => n⟩
theorem Tryd.lays103 : Go.Proofs.Lays.n103 Tryd.prog Tryd.lays103_ren := {
  mixed := by kernel_rfl
  f103 := Tryd.func174.trans (congrArg some (by kernel_rfl))
  f206 := Tryd.func179.trans (congrArg some (by kernel_rfl))
  f210 := Tryd.func177.trans (congrArg some (by kernel_rfl))
  t3 := Tryd.underlying3
  a3 := Tryd.isAgg3
  z3 := Tryd.sizeOf3
  v3 := Tryd.zeroValue3
  t4 := Tryd.underlying4
  a4 := Tryd.isAgg4
  z4 := Tryd.sizeOf4
  v4 := Tryd.zeroValue4
  t9 := Tryd.underlying9
  a9 := Tryd.isAgg9
  z9 := Tryd.sizeOf9
  v9 := Tryd.zeroValue9
  t24 := Tryd.underlying199
  a24 := Tryd.isAgg199
  z24 := Tryd.sizeOf199
  v24 := Tryd.zeroValue199 }
open Go.RowKit in
/-- strings.CutPrefix: "CutPrefix returns s without the provided leading prefix string and reports whether it found the prefix. If s doesn't start with prefix, CutPrefix returns s, false. If prefix is the empty string, CutPrefix returns s, true.": IT RETURNS '(Lib.trimPrefix s p, Lib.hasPrefix s p)'; the world is as it was. (LAID: no walk: one application.) -/
theorem Tryd.strings_CutPrefix (s p : ByteArray) (w : World) :
    Calls Tryd.prog 174 #[.string s, .string p] w fun e w' => e = .returned (.tuple #[.string ⟨(Lib.trimPrefix s.data.toList p.data.toList).toArray⟩, .bool (Lib.hasPrefix s.data.toList p.data.toList)]) ∧ w' = w := Any.strings_CutPrefix Tryd.lays103 s p w
open Go.RowKit in
/-- (*strings.Builder).String: "String returns the accumulated string.": OF A BUILDER THAT HOLDS AT LEAST ONE BYTE. ✋ THE MODEL FREEZES THOSE BYTES IN THE BUFFER (unsafe.String): a later write INTO them ends the model's run without an answer; a later append BEHIND them goes on. The statement's order of evaluation is drawn: one draw. THE FORM '_f': IT SAYS BESIDES THAT THE BUILDER IS A BUILDER STILL ('Lib.IsBuilderF', the same bytes): SO IT CAN BE WRITTEN ON: 'b.WriteString(b.String()[:k])'. (LAID: no walk: one application.) -/
theorem Tryd.Builder_String_f (B b : Nat) (l : List UInt8) (w : World) (h : Lib.IsBuilderF 107 5 B b (Lib.byteCells l) w) (h0 : l ≠ []) :
    Calls Tryd.prog 56 #[.pointer (some ⟨b, 0, none⟩)] w fun e w' => e = .returned (.string ⟨l.toArray⟩) ∧ (Lib.IsBuilderF 107 5 B b (Lib.byteCells l) w' ∧ Below B w w') := Any.Builder_String_f Tryd.lays169 Tryd.Builder_Extra_169 B b l w h h0
open Go.RowKit in
/-- (*strings.Builder).String OF A BUILDER THAT HOLDS NO BYTE: the empty string; THE FORM '_f': a builder still. (LAID: no walk: one application.) -/
theorem Tryd.Builder_String_empty_f (B b : Nat) (w : World) (h : Lib.IsBuilderF 107 5 B b [] w) (hBw : B ≤ w.heap.size) :
    Calls Tryd.prog 56 #[.pointer (some ⟨b, 0, none⟩)] w fun e w' => e = .returned (.string ⟨#[]⟩) ∧ (Lib.IsBuilderF 107 5 B b [] w' ∧ Below B w w') := Any.Builder_String_empty_f Tryd.lays169 Tryd.Builder_Extra_169 B b w h hBw
open Go.RowKit in
/-- (*strings.Builder).String: "String returns the accumulated string.": WHATEVER THE BUILDER HOLDS; THE FORM '_f': OF A BUILDER THAT MAY HAVE BEEN READ BEFORE; AND IT IS A BUILDER STILL, holding the same bytes: it can be written on. (LAID: no walk: one application.) -/
theorem Tryd.Builder_String_any_f (B b : Nat) (l : List UInt8) (w : World) (h : Lib.IsBuilderF 107 5 B b (Lib.byteCells l) w) (hBw : B ≤ w.heap.size) :
    Calls Tryd.prog 56 #[.pointer (some ⟨b, 0, none⟩)] w fun e w' => e = .returned (.string ⟨l.toArray⟩) ∧ (Lib.IsBuilderF 107 5 B b (Lib.byteCells l) w' ∧ Below B w w') := Any.Builder_String_any_f Tryd.lays169 Tryd.Builder_Extra_169 B b l w h hBw
open Go.RowKit in
/-- (*strings.Builder).String: "String returns the accumulated string.": OF A BUILDER THAT HOLDS AT LEAST ONE BYTE. ✋ THE MODEL FREEZES THOSE BYTES IN THE BUFFER (unsafe.String): a later write INTO them ends the model's run without an answer; a later append BEHIND them goes on. The statement's order of evaluation is drawn: one draw. THE FORM '_k': OVER 'Lib.IsBuilderF' (a builder that 'String()' may have read), AND WITH THE FRAME THAT REACHES ABOVE THE BUILDER: 'Lib.OthersKept': every block that is not b and is no row of uint8's stands as it stood: the iterator of a range among them. (LAID: no walk: one application.) -/
theorem Tryd.Builder_String_k (B b : Nat) (l : List UInt8) (w : World) (h : Lib.IsBuilderF 107 5 B b (Lib.byteCells l) w) (h0 : l ≠ []) :
    Calls Tryd.prog 56 #[.pointer (some ⟨b, 0, none⟩)] w fun e w' => e = .returned (.string ⟨l.toArray⟩) ∧ (Lib.IsBuilderF 107 5 B b (Lib.byteCells l) w' ∧ Below B w w' ∧ Lib.OthersKept 5 (some b) w w') := Any.Builder_String_k Tryd.lays169 Tryd.Builder_Extra_169 B b l w h h0
open Go.RowKit in
/-- (*strings.Builder).String OF A BUILDER THAT HOLDS NO BYTE: the empty string; THE FORM '_k': OVER 'Lib.IsBuilderF' (a builder that 'String()' may have read), AND WITH THE FRAME THAT REACHES ABOVE THE BUILDER: 'Lib.OthersKept': every block that is not b and is no row of uint8's stands as it stood: the iterator of a range among them. (LAID: no walk: one application.) -/
theorem Tryd.Builder_String_empty_k (B b : Nat) (w : World) (h : Lib.IsBuilderF 107 5 B b [] w) (hBw : B ≤ w.heap.size) :
    Calls Tryd.prog 56 #[.pointer (some ⟨b, 0, none⟩)] w fun e w' => e = .returned (.string ⟨#[]⟩) ∧ (Lib.IsBuilderF 107 5 B b [] w' ∧ Below B w w' ∧ Lib.OthersKept 5 (some b) w w') := Any.Builder_String_empty_k Tryd.lays169 Tryd.Builder_Extra_169 B b w h hBw
open Go.RowKit in
/-- (*strings.Builder).String: "String returns the accumulated string.": WHATEVER THE BUILDER HOLDS; THE FORM '_k': OVER 'Lib.IsBuilderF' (a builder that 'String()' may have read), AND WITH THE FRAME THAT REACHES ABOVE THE BUILDER: 'Lib.OthersKept': every block that is not b and is no row of uint8's stands as it stood: the iterator of a range among them. (LAID: no walk: one application.) -/
theorem Tryd.Builder_String_any_k (B b : Nat) (l : List UInt8) (w : World) (h : Lib.IsBuilderF 107 5 B b (Lib.byteCells l) w) (hBw : B ≤ w.heap.size) :
    Calls Tryd.prog 56 #[.pointer (some ⟨b, 0, none⟩)] w fun e w' => e = .returned (.string ⟨l.toArray⟩) ∧ (Lib.IsBuilderF 107 5 B b (Lib.byteCells l) w' ∧ Below B w w' ∧ Lib.OthersKept 5 (some b) w w') := Any.Builder_String_any_k Tryd.lays169 Tryd.Builder_Extra_169 B b l w h hBw
open Go.RowKit in
/-- (*strings.Builder).grow (no doc but "grow copies the buffer to a new, larger buffer so that there are at least n bytes of capacity beyond len(b.buf)."): AT A BUILDER WITHOUT A BUFFER: a new row of whatever bytes for its buffer, none of them its own yet. Three draws. (LAID: no walk: one application.) -/
theorem Tryd.Builder_grow_fresh_cap (B b n : Nat) (w : World) (hB : B ≤ b) (hbk : w.heap[b]? = some (.cells #[.pointer (some ⟨b, 0, none⟩), .slice none 0 0] 107 (0, 0))) (hBw : B ≤ w.heap.size) (hn : n ≤ 281474976710656) :
    Calls Tryd.prog 86 #[.pointer (some ⟨b, 0, none⟩), .int .i64 n] w fun e w' => e = .returned (.tuple #[]) ∧ (Lib.BuilderAt 107 5 B b (.pointer (some ⟨b, 0, none⟩)) [] w' ∧ Below B w w') ∧ ∃ p cap, w'.cell? ⟨b, 1, none⟩ = some (.slice p 0 cap) ∧ n ≤ cap := Any.Builder_grow_fresh_cap Tryd.lays241 Tryd.Builder_Extra_241 B b n w hB hbk hBw hn
open Go.RowKit in
/-- (*strings.Builder).Grow AT A BUILDER THAT HAS NOT BEEN WRITTEN ('var b strings.Builder; b.Grow(n)'): "Grow grows b's capacity, if necessary, to guarantee space for another n bytes.": it holds no byte behind it as before it. (LAID: no walk: one application.) -/
theorem Tryd.Builder_Grow_fresh_cap (B b n : Nat) (w : World) (hB : B ≤ b) (hbk : w.heap[b]? = some (.cells #[.pointer none, .slice none 0 0] 107 (0, 0))) (hBw : B ≤ w.heap.size) (hn : n ≤ 281474976710656) :
    Calls Tryd.prog 54 #[.pointer (some ⟨b, 0, none⟩), .int .i64 n] w fun e w' => e = .returned (.tuple #[]) ∧ (Lib.BuilderAt 107 5 B b (.pointer (some ⟨b, 0, none⟩)) [] w' ∧ Below B w w') ∧ ∃ p cap, w'.cell? ⟨b, 1, none⟩ = some (.slice p 0 cap) ∧ n ≤ cap := Any.Builder_Grow_fresh_cap Tryd.lays165 Tryd.Builder_Extra_165 B b n w hB hbk hBw hn
def Tryd.lays217_ren : Go.Shelf.Ren := ⟨fun | 217 => 94 | 266 => 118 | n => n, fun | 9 => 9 | 5 => 5 | 3 => 3 | n => n, fun | n => n⟩
theorem Tryd.lays217 : Go.Proofs.Lays.n217 Tryd.prog Tryd.lays217_ren := {
  mixed := by kernel_rfl
  f217 := Tryd.func94.trans (congrArg some (by kernel_rfl))
  f266 := Tryd.func118.trans (congrArg some (by kernel_rfl))
  t3 := Tryd.underlying3
  a3 := Tryd.isAgg3
  z3 := Tryd.sizeOf3
  v3 := Tryd.zeroValue3
  t5 := Tryd.underlying5
  a5 := Tryd.isAgg5
  z5 := Tryd.sizeOf5
  v5 := Tryd.zeroValue5
  t9 := Tryd.underlying9
  a9 := Tryd.isAgg9
  z9 := Tryd.sizeOf9
  v9 := Tryd.zeroValue9 }
open Go.RowKit Go.Lib in
/-- internal/stringslite.IndexByte (what strings.IndexByte calls): IT RETURNS 'Lib.indexByte s c'; the world is as it was. (LAID: no walk: one application.) -/
theorem Tryd.stringslite_IndexByte (s : ByteArray) (c : Int) (w : World) :
    Calls Tryd.prog 94 #[.string s, .int .u8 c] w fun e w' => e = .returned (.int .i64 (Lib.indexByte s.data.toList c.toNat.toUInt8)) ∧ w' = w := Any.stringslite_IndexByte Tryd.lays217 s c w
def Tryd.lays224_ren : Go.Shelf.Ren := ⟨fun | 224 => 115 | n => n, fun | 3 => 3 | n => n, fun | n => n⟩
theorem Tryd.lays224 : Go.Proofs.Lays.n224 Tryd.prog Tryd.lays224_ren := {
  mixed := by kernel_rfl
  f224 := Tryd.func115.trans (congrArg some (by kernel_rfl))
  t3 := Tryd.underlying3
  a3 := Tryd.isAgg3
  z3 := Tryd.sizeOf3
  v3 := Tryd.zeroValue3 }
open Go.RowKit Go.Lib in
/-- internal/bytealg.Cutover: "Cutover reports the number of failures of IndexByte we should tolerate before switching over to Index. n is the number of bytes processed so far.": on amd64: (n + 16) / 8. (LAID: no walk: one application.) -/
theorem Tryd.bytealg_Cutover (n : Int) (h0 : 0 ≤ n) (h1 : n < 4611686018427387904) (w : World) :
    Calls Tryd.prog 115 #[.int .i64 n] w fun e w' => e = .returned (.int .i64 ((n + 16) / 8)) ∧ w' = w := Any.bytealg_Cutover Tryd.lays224 n h0 h1 w
def Tryd.lays314_ren : Go.Shelf.Ren := ⟨fun | 314 => 127 | n => n, fun | 9 => 9 | 51 => 118 | 3 => 3 | 4 => 4 | 5 => 5 | 46 => 120 | n => n, fun | n => n⟩
theorem Tryd.lays314 : Go.Proofs.Lays.n314 Tryd.prog Tryd.lays314_ren := {
  mixed := by kernel_rfl
  f314 := Tryd.func127.trans (congrArg some (by kernel_rfl))
  t3 := Tryd.underlying3
  a3 := Tryd.isAgg3
  z3 := Tryd.sizeOf3
  v3 := Tryd.zeroValue3
  t4 := Tryd.underlying4
  a4 := Tryd.isAgg4
  z4 := Tryd.sizeOf4
  v4 := Tryd.zeroValue4
  t5 := Tryd.underlying5
  a5 := Tryd.isAgg5
  z5 := Tryd.sizeOf5
  v5 := Tryd.zeroValue5
  t9 := Tryd.underlying9
  a9 := Tryd.isAgg9
  z9 := Tryd.sizeOf9
  v9 := Tryd.zeroValue9
  t46 := Tryd.underlying120
  a46 := Tryd.isAgg120
  z46 := Tryd.sizeOf120
  v46 := Tryd.zeroValue120
  t51 := Tryd.underlying118
  a51 := Tryd.isAgg118
  z51 := Tryd.sizeOf118
  v51 := Tryd.zeroValue118 }
open Go.RowKit Go.Lib in
/-- hashStr: "returns the hash and the appropriate multiplicative factor for use in Rabin-Karp algorithm": THE HASH OF ALL OF sep, AND 16777619 ^ len(sep), both in uint32. (LAID: no walk: one application.) -/
theorem Tryd.bytealg_hashStr (sep : ByteArray) (hs : sep.size < 4294967281) (w : World) :
    Calls Tryd.prog 127 #[.string sep] w fun e w' => e = .returned (.tuple #[.int .u32 (RK.H sep.data.toList % 4294967296), .int .u32 (16777619 ^ sep.size % 4294967296)]) ∧ w' = w := Any.bytealg_hashStr Tryd.lays314 sep hs w
def Tryd.lays267_ren : Go.Shelf.Ren := ⟨fun | 267 => 116 | 314 => 127 | n => n, fun | 9 => 9 | 3 => 3 | 146 => 200 | 51 => 118 | 4 => 4 | 5 => 5 | 46 => 120 | n => n, fun | n => n⟩
theorem Tryd.lays267 : Go.Proofs.Lays.n267 Tryd.prog Tryd.lays267_ren := {
  mixed := by kernel_rfl
  f267 := Tryd.func116.trans (congrArg some (by kernel_rfl))
  f314 := Tryd.func127.trans (congrArg some (by kernel_rfl))
  t3 := Tryd.underlying3
  a3 := Tryd.isAgg3
  z3 := Tryd.sizeOf3
  v3 := Tryd.zeroValue3
  t4 := Tryd.underlying4
  a4 := Tryd.isAgg4
  z4 := Tryd.sizeOf4
  v4 := Tryd.zeroValue4
  t5 := Tryd.underlying5
  a5 := Tryd.isAgg5
  z5 := Tryd.sizeOf5
  v5 := Tryd.zeroValue5
  t9 := Tryd.underlying9
  a9 := Tryd.isAgg9
  z9 := Tryd.sizeOf9
  v9 := Tryd.zeroValue9
  t46 := Tryd.underlying120
  a46 := Tryd.isAgg120
  z46 := Tryd.sizeOf120
  v46 := Tryd.zeroValue120
  t51 := Tryd.underlying118
  a51 := Tryd.isAgg118
  z51 := Tryd.sizeOf118
  v51 := Tryd.zeroValue118
  t146 := Tryd.underlying200
  a146 := Tryd.isAgg200
  z146 := Tryd.sizeOf200
  v146 := Tryd.zeroValue200 }
open Go.RowKit Go.Lib in
theorem Tryd.bytealg_IndexRabinKarp (s sep : ByteArray) (h1 : 1 ≤ sep.size) (h2 : sep.size ≤ s.size) (hs : s.size < 4294967281) (w : World) :
    Calls Tryd.prog 116 #[.string s, .string sep] w fun e w' => e = .returned (.int .i64 (Lib.index s.data.toList sep.data.toList)) ∧ w' = w := Any.bytealg_IndexRabinKarp Tryd.lays267 s sep h1 h2 hs w
def Tryd.lays219_ren : Go.Shelf.Ren := ⟨fun | 219 => 92 | 217 => 94 | 225 => 114 | 224 => 115 | 267 => 116 | 266 => 118 | 314 => 127 | n => n, fun | 9 => 9 | 3 => 3 | 4 => 4 | 5 => 5 | 46 => 120 | 146 => 200 | 51 => 118 | n => n, fun | 1 => 3 | n => n⟩
theorem Tryd.lays219 : Go.Proofs.Lays.n219 Tryd.prog Tryd.lays219_ren := {
  mixed := by kernel_rfl
  f217 := Tryd.func94.trans (congrArg some (by kernel_rfl))
  f219 := Tryd.func92.trans (congrArg some (by kernel_rfl))
  f224 := Tryd.func115.trans (congrArg some (by kernel_rfl))
  f225 := Tryd.func114.trans (congrArg some (by kernel_rfl))
  f266 := Tryd.func118.trans (congrArg some (by kernel_rfl))
  f267 := Tryd.func116.trans (congrArg some (by kernel_rfl))
  f314 := Tryd.func127.trans (congrArg some (by kernel_rfl))
  t3 := Tryd.underlying3
  a3 := Tryd.isAgg3
  z3 := Tryd.sizeOf3
  v3 := Tryd.zeroValue3
  t4 := Tryd.underlying4
  a4 := Tryd.isAgg4
  z4 := Tryd.sizeOf4
  v4 := Tryd.zeroValue4
  t5 := Tryd.underlying5
  a5 := Tryd.isAgg5
  z5 := Tryd.sizeOf5
  v5 := Tryd.zeroValue5
  t9 := Tryd.underlying9
  a9 := Tryd.isAgg9
  z9 := Tryd.sizeOf9
  v9 := Tryd.zeroValue9
  t46 := Tryd.underlying120
  a46 := Tryd.isAgg120
  z46 := Tryd.sizeOf120
  v46 := Tryd.zeroValue120
  t51 := Tryd.underlying118
  a51 := Tryd.isAgg118
  z51 := Tryd.sizeOf118
  v51 := Tryd.zeroValue118
  t146 := Tryd.underlying200
  a146 := Tryd.isAgg200
  z146 := Tryd.sizeOf200
  v146 := Tryd.zeroValue200
  g1 := by kernel_rfl }
open Go.RowKit Go.Lib in
/-- internal/stringslite.Index (what strings.Index calls) AT A substr OF ONE BYTE c: IT RETURNS 'Lib.indexByte s c'; the world is as it was. (LAID: no walk: one application.) -/
theorem Tryd.stringslite_Index_one (s : ByteArray) (c : UInt8) (w : World) :
    Calls Tryd.prog 92 #[.string s, .string ⟨#[c]⟩] w fun e w' => e = .returned (.int .i64 (Lib.indexByte s.data.toList c)) ∧ w' = w := Any.stringslite_Index_one Tryd.lays219 s c w
open Go.RowKit Go.Lib in
/-- internal/stringslite.Index (what strings.Index calls) AT A substr OF WHATEVER LENGTH: IT RETURNS 'Lib.index s substr'; the world is as it was. 'm': what internal/bytealg.MaxLen holds: whatever. (LAID: no walk: one application.) -/
theorem Tryd.stringslite_Index (s sub : ByteArray) (m : Int) (w : World) (hs : s.size < 4294967281) (hm : w.cell? ⟨3, 0, none⟩ = some (.int .i64 m)) :
    Calls Tryd.prog 92 #[.string s, .string sub] w fun e w' => e = .returned (.int .i64 (Lib.index s.data.toList sub.data.toList)) ∧ w' = w := Any.stringslite_Index Tryd.lays219 s sub m w hs hm
def Tryd.lays143_ren : Go.Shelf.Ren := ⟨fun | 143 => 84 | 219 => 92 | 217 => 94 | 225 => 114 | 224 => 115 | 267 => 116 | 266 => 118 | 314 => 127 | n => n, fun | 9 => 9 | 3 => 3 | 4 => 4 | 5 => 5 | 46 => 120 | 146 => 200 | 51 => 118 | n => n, fun | 1 => 3 | n => n⟩
theorem Tryd.lays143 : Go.Proofs.Lays.n143 Tryd.prog Tryd.lays143_ren := {
  mixed := by kernel_rfl
  f143 := Tryd.func84.trans (congrArg some (by kernel_rfl))
  f217 := Tryd.func94.trans (congrArg some (by kernel_rfl))
  f219 := Tryd.func92.trans (congrArg some (by kernel_rfl))
  f224 := Tryd.func115.trans (congrArg some (by kernel_rfl))
  f225 := Tryd.func114.trans (congrArg some (by kernel_rfl))
  f266 := Tryd.func118.trans (congrArg some (by kernel_rfl))
  f267 := Tryd.func116.trans (congrArg some (by kernel_rfl))
  f314 := Tryd.func127.trans (congrArg some (by kernel_rfl))
  t3 := Tryd.underlying3
  a3 := Tryd.isAgg3
  z3 := Tryd.sizeOf3
  v3 := Tryd.zeroValue3
  t4 := Tryd.underlying4
  a4 := Tryd.isAgg4
  z4 := Tryd.sizeOf4
  v4 := Tryd.zeroValue4
  t5 := Tryd.underlying5
  a5 := Tryd.isAgg5
  z5 := Tryd.sizeOf5
  v5 := Tryd.zeroValue5
  t9 := Tryd.underlying9
  a9 := Tryd.isAgg9
  z9 := Tryd.sizeOf9
  v9 := Tryd.zeroValue9
  t46 := Tryd.underlying120
  a46 := Tryd.isAgg120
  z46 := Tryd.sizeOf120
  v46 := Tryd.zeroValue120
  t51 := Tryd.underlying118
  a51 := Tryd.isAgg118
  z51 := Tryd.sizeOf118
  v51 := Tryd.zeroValue118
  t146 := Tryd.underlying200
  a146 := Tryd.isAgg200
  z146 := Tryd.sizeOf200
  v146 := Tryd.zeroValue200
  g1 := by kernel_rfl }
open Go.RowKit Go.Lib in
/-- strings.Index: "Index returns the index of the first instance of substr in s, or -1 if substr is not present in s.": AT A substr OF ONE BYTE c: IT RETURNS 'Lib.indexByte s c'; the world is as it was. (LAID: no walk: one application.) -/
theorem Tryd.strings_Index_one (s : ByteArray) (c : UInt8) (w : World) :
    Calls Tryd.prog 84 #[.string s, .string ⟨#[c]⟩] w fun e w' => e = .returned (.int .i64 (Lib.indexByte s.data.toList c)) ∧ w' = w := Any.strings_Index_one Tryd.lays143 s c w
open Go.RowKit Go.Lib in
/-- strings.Index: "Index returns the index of the first instance of substr in s, or -1 if substr is not present in s.": IT RETURNS 'Lib.index s substr'; the world is as it was. (LAID: no walk: one application.) -/
theorem Tryd.strings_Index (s sub : ByteArray) (m : Int) (w : World) (hs : s.size < 4294967281) (hm : w.cell? ⟨3, 0, none⟩ = some (.int .i64 m)) :
    Calls Tryd.prog 84 #[.string s, .string sub] w fun e w' => e = .returned (.int .i64 (Lib.index s.data.toList sub.data.toList)) ∧ w' = w := Any.strings_Index Tryd.lays143 s sub m w hs hm
def Tryd.lays220_ren : Go.Shelf.Ren := ⟨fun | 220 => 61 | 219 => 92 | 217 => 94 | 225 => 114 | 224 => 115 | 267 => 116 | 266 => 118 | 314 => 127 | n => n, fun | 9 => 9 | 4 => 4 | 3 => 3 | 5 => 5 | 46 => 120 | 146 => 200 | 51 => 118 | n => n, fun | 1 => 3 | n => n⟩
theorem Tryd.lays220 : Go.Proofs.Lays.n220 Tryd.prog Tryd.lays220_ren := {
  mixed := by kernel_rfl
  f217 := Tryd.func94.trans (congrArg some (by kernel_rfl))
  f219 := Tryd.func92.trans (congrArg some (by kernel_rfl))
  f220 := Tryd.func61.trans (congrArg some (by kernel_rfl))
  f224 := Tryd.func115.trans (congrArg some (by kernel_rfl))
  f225 := Tryd.func114.trans (congrArg some (by kernel_rfl))
  f266 := Tryd.func118.trans (congrArg some (by kernel_rfl))
  f267 := Tryd.func116.trans (congrArg some (by kernel_rfl))
  f314 := Tryd.func127.trans (congrArg some (by kernel_rfl))
  t3 := Tryd.underlying3
  a3 := Tryd.isAgg3
  z3 := Tryd.sizeOf3
  v3 := Tryd.zeroValue3
  t4 := Tryd.underlying4
  a4 := Tryd.isAgg4
  z4 := Tryd.sizeOf4
  v4 := Tryd.zeroValue4
  t5 := Tryd.underlying5
  a5 := Tryd.isAgg5
  z5 := Tryd.sizeOf5
  v5 := Tryd.zeroValue5
  t9 := Tryd.underlying9
  a9 := Tryd.isAgg9
  z9 := Tryd.sizeOf9
  v9 := Tryd.zeroValue9
  t46 := Tryd.underlying120
  a46 := Tryd.isAgg120
  z46 := Tryd.sizeOf120
  v46 := Tryd.zeroValue120
  t51 := Tryd.underlying118
  a51 := Tryd.isAgg118
  z51 := Tryd.sizeOf118
  v51 := Tryd.zeroValue118
  t146 := Tryd.underlying200
  a146 := Tryd.isAgg200
  z146 := Tryd.sizeOf200
  v146 := Tryd.zeroValue200
  g1 := by kernel_rfl }
open Go.RowKit Go.Lib in
/-- internal/stringslite.Cut (what strings.Cut calls): IT RETURNS 'Lib.cut s sep'; the world is as it was but for the count of draws. (LAID: no walk: one application.) -/
theorem Tryd.stringslite_Cut (s sep : ByteArray) (m : Int) (w : World) (hs : s.size < 4294967281) (hm : w.cell? ⟨3, 0, none⟩ = some (.int .i64 m)) :
    Calls Tryd.prog 61 #[.string s, .string sep] w fun e w' => e = .returned (.tuple #[.string ⟨(Lib.cut s.data.toList sep.data.toList).1.toArray⟩, .string ⟨(Lib.cut s.data.toList sep.data.toList).2.1.toArray⟩, .bool (Lib.cut s.data.toList sep.data.toList).2.2]) ∧ ∃ n, w' = w.drewN n := Any.stringslite_Cut Tryd.lays220 s sep m w hs hm
def Tryd.lays145_ren : Go.Shelf.Ren := ⟨fun | 145 => 38 | 220 => 61 | 219 => 92 | 217 => 94 | 225 => 114 | 224 => 115 | 267 => 116 | 266 => 118 | 314 => 127 | n => n, fun | 9 => 9 | 4 => 4 | 59 => 44 | 3 => 3 | 5 => 5 | 46 => 120 | 146 => 200 | 51 => 118 | n => n, fun | 1 => 3 | n => n⟩
theorem Tryd.lays145 : Go.Proofs.Lays.n145 Tryd.prog Tryd.lays145_ren := {
  mixed := by kernel_rfl
  f145 := Tryd.func38.trans (congrArg some (by kernel_rfl))
  f217 := Tryd.func94.trans (congrArg some (by kernel_rfl))
  f219 := Tryd.func92.trans (congrArg some (by kernel_rfl))
  f220 := Tryd.func61.trans (congrArg some (by kernel_rfl))
  f224 := Tryd.func115.trans (congrArg some (by kernel_rfl))
  f225 := Tryd.func114.trans (congrArg some (by kernel_rfl))
  f266 := Tryd.func118.trans (congrArg some (by kernel_rfl))
  f267 := Tryd.func116.trans (congrArg some (by kernel_rfl))
  f314 := Tryd.func127.trans (congrArg some (by kernel_rfl))
  t3 := Tryd.underlying3
  a3 := Tryd.isAgg3
  z3 := Tryd.sizeOf3
  v3 := Tryd.zeroValue3
  t4 := Tryd.underlying4
  a4 := Tryd.isAgg4
  z4 := Tryd.sizeOf4
  v4 := Tryd.zeroValue4
  t5 := Tryd.underlying5
  a5 := Tryd.isAgg5
  z5 := Tryd.sizeOf5
  v5 := Tryd.zeroValue5
  t9 := Tryd.underlying9
  a9 := Tryd.isAgg9
  z9 := Tryd.sizeOf9
  v9 := Tryd.zeroValue9
  t46 := Tryd.underlying120
  a46 := Tryd.isAgg120
  z46 := Tryd.sizeOf120
  v46 := Tryd.zeroValue120
  t51 := Tryd.underlying118
  a51 := Tryd.isAgg118
  z51 := Tryd.sizeOf118
  v51 := Tryd.zeroValue118
  t59 := Tryd.underlying44
  a59 := Tryd.isAgg44
  z59 := Tryd.sizeOf44
  v59 := Tryd.zeroValue44
  t146 := Tryd.underlying200
  a146 := Tryd.isAgg200
  z146 := Tryd.sizeOf200
  v146 := Tryd.zeroValue200
  g1 := by kernel_rfl }
open Go.RowKit Go.Lib in
/-- strings.Cut: "Cut slices s around the first instance of sep, returning the text before and after sep. The found result reports whether sep appears in s. If sep does not appear in s, cut returns s, "", false.": IT RETURNS 'Lib.cut s sep'; the world is as it was but for the count of draws. (LAID: no walk: one application.) -/
theorem Tryd.strings_Cut (s sep : ByteArray) (m : Int) (w : World) (hs : s.size < 4294967281) (hm : w.cell? ⟨3, 0, none⟩ = some (.int .i64 m)) :
    Calls Tryd.prog 38 #[.string s, .string sep] w fun e w' => e = .returned (.tuple #[.string ⟨(Lib.cut s.data.toList sep.data.toList).1.toArray⟩, .string ⟨(Lib.cut s.data.toList sep.data.toList).2.1.toArray⟩, .bool (Lib.cut s.data.toList sep.data.toList).2.2]) ∧ ∃ n, w' = w.drewN n := Any.strings_Cut Tryd.lays145 s sep m w hs hm
def Tryd.lays138_ren : Go.Shelf.Ren := ⟨fun | 138 => 83 | 195 => 105 | 218 => 106 | 143 => 84 | 219 => 92 | 217 => 94 | 225 => 114 | 224 => 115 | 267 => 116 | 266 => 118 | 314 => 127 | n => n, fun | 9 => 9 | 3 => 3 | 4 => 4 | 5 => 5 | 0 => 0 | 46 => 120 | 146 => 200 | 51 => 118 | n => n, fun | 1 => 3 | n => n⟩
theorem Tryd.lays138 : Go.Proofs.Lays.n138 Tryd.prog Tryd.lays138_ren := {
  mixed := by kernel_rfl
  f138 := Tryd.func83.trans (congrArg some (by kernel_rfl))
  f143 := Tryd.func84.trans (congrArg some (by kernel_rfl))
  f195 := Tryd.func105.trans (congrArg some (by kernel_rfl))
  f217 := Tryd.func94.trans (congrArg some (by kernel_rfl))
  f218 := Tryd.func106.trans (congrArg some (by kernel_rfl))
  f219 := Tryd.func92.trans (congrArg some (by kernel_rfl))
  f224 := Tryd.func115.trans (congrArg some (by kernel_rfl))
  f225 := Tryd.func114.trans (congrArg some (by kernel_rfl))
  f266 := Tryd.func118.trans (congrArg some (by kernel_rfl))
  f267 := Tryd.func116.trans (congrArg some (by kernel_rfl))
  f314 := Tryd.func127.trans (congrArg some (by kernel_rfl))
  t0 := Tryd.underlying0
  a0 := Tryd.isAgg0
  z0 := Tryd.sizeOf0
  v0 := Tryd.zeroValue0
  t3 := Tryd.underlying3
  a3 := Tryd.isAgg3
  z3 := Tryd.sizeOf3
  v3 := Tryd.zeroValue3
  t4 := Tryd.underlying4
  a4 := Tryd.isAgg4
  z4 := Tryd.sizeOf4
  v4 := Tryd.zeroValue4
  t5 := Tryd.underlying5
  a5 := Tryd.isAgg5
  z5 := Tryd.sizeOf5
  v5 := Tryd.zeroValue5
  t9 := Tryd.underlying9
  a9 := Tryd.isAgg9
  z9 := Tryd.sizeOf9
  v9 := Tryd.zeroValue9
  t46 := Tryd.underlying120
  a46 := Tryd.isAgg120
  z46 := Tryd.sizeOf120
  v46 := Tryd.zeroValue120
  t51 := Tryd.underlying118
  a51 := Tryd.isAgg118
  z51 := Tryd.sizeOf118
  v51 := Tryd.zeroValue118
  t146 := Tryd.underlying200
  a146 := Tryd.isAgg200
  z146 := Tryd.sizeOf200
  v146 := Tryd.zeroValue200
  g1 := by kernel_rfl }
open Go.RowKit Go.Lib in
/-- strings.Count AT A substr OF ONE BYTE ('hp'): "Count counts the number of non-overlapping instances of substr in s.": IT RETURNS 'Lib.countByte s (that byte)'; the world is as it was. ✋ NO CONTRACT HERE YET at an empty substr (utf8.RuneCountInString) or at a longer one (a loop over strings.Index). (LAID: no walk: one application.) -/
theorem Tryd.strings_Count_one (s : ByteArray) (c : UInt8) (w : World) :
    Calls Tryd.prog 83 #[.string s, .string ⟨#[c]⟩] w fun e w' => e = .returned (.int .i64 (Lib.countByte s.data.toList c)) ∧ w' = w := Any.strings_Count_one Tryd.lays138 s c w
open Go.RowKit Go.Lib in
/-- strings.Count AT A substr OF TWO BYTES OR MORE: "Count counts the number of non-overlapping instances of substr in s.": IT RETURNS 'Lib.count s substr'; the world is as it was. (LAID: no walk: one application.) -/
theorem Tryd.strings_Count (s sub : ByteArray) (m : Int) (w : World) (hs : s.size < 4294967281) (hm : w.cell? ⟨3, 0, none⟩ = some (.int .i64 m)) (h2 : 2 ≤ sub.size) :
    Calls Tryd.prog 83 #[.string s, .string sub] w fun e w' => e = .returned (.int .i64 (Lib.countB s sub)) ∧ w' = w := Any.strings_Count Tryd.lays138 s sub m w hs hm h2
def Tryd.laysM219_ren : Go.Shelf.Ren := ⟨fun | 219 => 92 | 217 => 94 | 225 => 114 | 224 => 115 | 267 => 116 | 266 => 118 | 314 => 127 | n => n, fun | 9 => 9 | 3 => 3 | 4 => 4 | 5 => 5 | 46 => 120 | 146 => 200 | 51 => 118 | n => n, fun | 1 => 3 | n => n⟩
theorem Tryd.laysM219 : Go.Proofs.LaysM.n219 Tryd.prog Tryd.laysM219_ren := {
  mixed := by kernel_rfl
  f217 := Tryd.func94.trans (congrArg some (by kernel_rfl))
  f219 := Tryd.func92.trans (congrArg some (by kernel_rfl))
  f224 := Tryd.func115.trans (congrArg some (by kernel_rfl))
  f225 := Tryd.func114.trans (congrArg some (by kernel_rfl))
  f266 := Tryd.func118.trans (congrArg some (by kernel_rfl))
  f267 := Tryd.func116.trans (congrArg some (by kernel_rfl))
  f314 := Tryd.func127.trans (congrArg some (by kernel_rfl))
  t3 := Tryd.underlying3
  a3 := Tryd.isAgg3
  z3 := Tryd.sizeOf3
  v3 := Tryd.zeroValue3
  t4 := Tryd.underlying4
  a4 := Tryd.isAgg4
  z4 := Tryd.sizeOf4
  v4 := Tryd.zeroValue4
  t5 := Tryd.underlying5
  a5 := Tryd.isAgg5
  z5 := Tryd.sizeOf5
  v5 := Tryd.zeroValue5
  t9 := Tryd.underlying9
  a9 := Tryd.isAgg9
  z9 := Tryd.sizeOf9
  v9 := Tryd.zeroValue9
  t46 := Tryd.underlying120
  a46 := Tryd.isAgg120
  z46 := Tryd.sizeOf120
  v46 := Tryd.zeroValue120
  t51 := Tryd.underlying118
  a51 := Tryd.isAgg118
  z51 := Tryd.sizeOf118
  v51 := Tryd.zeroValue118
  t146 := Tryd.underlying200
  a146 := Tryd.isAgg200
  z146 := Tryd.sizeOf200
  v146 := Tryd.zeroValue200
  g1 := by kernel_rfl
  i3 := by kernel_rfl
  i4 := by kernel_rfl
  i5 := by kernel_rfl
  i9 := by kernel_rfl
  i46 := by kernel_rfl
  i51 := by kernel_rfl
  i146 := by kernel_rfl
  m1 := by kernel_rfl
  s1_3 := fun w h => Go.Proofs.cell_of_shapedOpen_int (zero := #[.int .i64 0]) (t := 3) h (of_decide_eq_true (by kernel_rfl)) (by kernel_rfl) rfl (by kernel_rfl) (by kernel_rfl) Tryd.underlying3 }
open Go.RowKit Go.Lib in
theorem Tryd.stringslite_Index_shaped (s sub : ByteArray) (w : World) (h : w.ShapedOpen Tryd.prog) (hs : s.size < 4294967281) :
    Calls Tryd.prog 92 #[.string s, .string sub] w fun e w' => e = .returned (.int .i64 (Lib.index s.data.toList sub.data.toList)) ∧ w' = w := Any.stringslite_Index_shaped Tryd.laysM219 s sub w h hs
def Tryd.laysM143_ren : Go.Shelf.Ren := ⟨fun | 143 => 84 | 219 => 92 | 217 => 94 | 225 => 114 | 224 => 115 | 267 => 116 | 266 => 118 | 314 => 127 | n => n, fun | 9 => 9 | 3 => 3 | 4 => 4 | 5 => 5 | 46 => 120 | 146 => 200 | 51 => 118 | n => n, fun | 1 => 3 | n => n⟩
theorem Tryd.laysM143 : Go.Proofs.LaysM.n143 Tryd.prog Tryd.laysM143_ren := {
  mixed := by kernel_rfl
  f143 := Tryd.func84.trans (congrArg some (by kernel_rfl))
  f217 := Tryd.func94.trans (congrArg some (by kernel_rfl))
  f219 := Tryd.func92.trans (congrArg some (by kernel_rfl))
  f224 := Tryd.func115.trans (congrArg some (by kernel_rfl))
  f225 := Tryd.func114.trans (congrArg some (by kernel_rfl))
  f266 := Tryd.func118.trans (congrArg some (by kernel_rfl))
  f267 := Tryd.func116.trans (congrArg some (by kernel_rfl))
  f314 := Tryd.func127.trans (congrArg some (by kernel_rfl))
  t3 := Tryd.underlying3
  a3 := Tryd.isAgg3
  z3 := Tryd.sizeOf3
  v3 := Tryd.zeroValue3
  t4 := Tryd.underlying4
  a4 := Tryd.isAgg4
  z4 := Tryd.sizeOf4
  v4 := Tryd.zeroValue4
  t5 := Tryd.underlying5
  a5 := Tryd.isAgg5
  z5 := Tryd.sizeOf5
  v5 := Tryd.zeroValue5
  t9 := Tryd.underlying9
  a9 := Tryd.isAgg9
  z9 := Tryd.sizeOf9
  v9 := Tryd.zeroValue9
  t46 := Tryd.underlying120
  a46 := Tryd.isAgg120
  z46 := Tryd.sizeOf120
  v46 := Tryd.zeroValue120
  t51 := Tryd.underlying118
  a51 := Tryd.isAgg118
  z51 := Tryd.sizeOf118
  v51 := Tryd.zeroValue118
  t146 := Tryd.underlying200
  a146 := Tryd.isAgg200
  z146 := Tryd.sizeOf200
  v146 := Tryd.zeroValue200
  g1 := by kernel_rfl
  i3 := by kernel_rfl
  i4 := by kernel_rfl
  i5 := by kernel_rfl
  i9 := by kernel_rfl
  i46 := by kernel_rfl
  i51 := by kernel_rfl
  i146 := by kernel_rfl
  m1 := by kernel_rfl
  s1_3 := fun w h => Go.Proofs.cell_of_shapedOpen_int (zero := #[.int .i64 0]) (t := 3) h (of_decide_eq_true (by kernel_rfl)) (by kernel_rfl) rfl (by kernel_rfl) (by kernel_rfl) Tryd.underlying3 }
open Go.RowKit Go.Lib in
theorem Tryd.strings_Index_shaped (s sub : ByteArray) (w : World) (h : w.ShapedOpen Tryd.prog) (hs : s.size < 4294967281) :
    Calls Tryd.prog 84 #[.string s, .string sub] w fun e w' => e = .returned (.int .i64 (Lib.index s.data.toList sub.data.toList)) ∧ w' = w := Any.strings_Index_shaped Tryd.laysM143 s sub w h hs
def Tryd.laysM220_ren : Go.Shelf.Ren := ⟨fun | 220 => 61 | 219 => 92 | 217 => 94 | 225 => 114 | 224 => 115 | 267 => 116 | 266 => 118 | 314 => 127 | n => n, fun | 9 => 9 | 4 => 4 | 3 => 3 | 5 => 5 | 46 => 120 | 146 => 200 | 51 => 118 | n => n, fun | 1 => 3 | n => n⟩
theorem Tryd.laysM220 : Go.Proofs.LaysM.n220 Tryd.prog Tryd.laysM220_ren := {
  mixed := by kernel_rfl
  f217 := Tryd.func94.trans (congrArg some (by kernel_rfl))
  f219 := Tryd.func92.trans (congrArg some (by kernel_rfl))
  f220 := Tryd.func61.trans (congrArg some (by kernel_rfl))
  f224 := Tryd.func115.trans (congrArg some (by kernel_rfl))
  f225 := Tryd.func114.trans (congrArg some (by kernel_rfl))
  f266 := Tryd.func118.trans (congrArg some (by kernel_rfl))
  f267 := Tryd.func116.trans (congrArg some (by kernel_rfl))
  f314 := Tryd.func127.trans (congrArg some (by kernel_rfl))
  t3 := Tryd.underlying3
  a3 := Tryd.isAgg3
  z3 := Tryd.sizeOf3
  v3 := Tryd.zeroValue3
  t4 := Tryd.underlying4
  a4 := Tryd.isAgg4
  z4 := Tryd.sizeOf4
  v4 := Tryd.zeroValue4
  t5 := Tryd.underlying5
  a5 := Tryd.isAgg5
  z5 := Tryd.sizeOf5
  v5 := Tryd.zeroValue5
  t9 := Tryd.underlying9
  a9 := Tryd.isAgg9
  z9 := Tryd.sizeOf9
  v9 := Tryd.zeroValue9
  t46 := Tryd.underlying120
  a46 := Tryd.isAgg120
  z46 := Tryd.sizeOf120
  v46 := Tryd.zeroValue120
  t51 := Tryd.underlying118
  a51 := Tryd.isAgg118
  z51 := Tryd.sizeOf118
  v51 := Tryd.zeroValue118
  t146 := Tryd.underlying200
  a146 := Tryd.isAgg200
  z146 := Tryd.sizeOf200
  v146 := Tryd.zeroValue200
  g1 := by kernel_rfl
  i3 := by kernel_rfl
  i4 := by kernel_rfl
  i5 := by kernel_rfl
  i9 := by kernel_rfl
  i46 := by kernel_rfl
  i51 := by kernel_rfl
  i146 := by kernel_rfl
  m1 := by kernel_rfl
  s1_3 := fun w h => Go.Proofs.cell_of_shapedOpen_int (zero := #[.int .i64 0]) (t := 3) h (of_decide_eq_true (by kernel_rfl)) (by kernel_rfl) rfl (by kernel_rfl) (by kernel_rfl) Tryd.underlying3 }
open Go.RowKit Go.Lib in
theorem Tryd.stringslite_Cut_shaped (s sep : ByteArray) (w : World) (h : w.ShapedOpen Tryd.prog) (hs : s.size < 4294967281) :
    Calls Tryd.prog 61 #[.string s, .string sep] w fun e w' => e = .returned (.tuple #[.string ⟨(Lib.cut s.data.toList sep.data.toList).1.toArray⟩, .string ⟨(Lib.cut s.data.toList sep.data.toList).2.1.toArray⟩, .bool (Lib.cut s.data.toList sep.data.toList).2.2]) ∧ ∃ n, w' = w.drewN n := Any.stringslite_Cut_shaped Tryd.laysM220 s sep w h hs
def Tryd.laysM145_ren : Go.Shelf.Ren := ⟨fun | 145 => 38 | 220 => 61 | 219 => 92 | 217 => 94 | 225 => 114 | 224 => 115 | 267 => 116 | 266 => 118 | 314 => 127 | n => n, fun | 9 => 9 | 4 => 4 | 59 => 44 | 3 => 3 | 5 => 5 | 46 => 120 | 146 => 200 | 51 => 118 | n => n, fun | 1 => 3 | n => n⟩
theorem Tryd.laysM145 : Go.Proofs.LaysM.n145 Tryd.prog Tryd.laysM145_ren := {
  mixed := by kernel_rfl
  f145 := Tryd.func38.trans (congrArg some (by kernel_rfl))
  f217 := Tryd.func94.trans (congrArg some (by kernel_rfl))
  f219 := Tryd.func92.trans (congrArg some (by kernel_rfl))
  f220 := Tryd.func61.trans (congrArg some (by kernel_rfl))
  f224 := Tryd.func115.trans (congrArg some (by kernel_rfl))
  f225 := Tryd.func114.trans (congrArg some (by kernel_rfl))
  f266 := Tryd.func118.trans (congrArg some (by kernel_rfl))
  f267 := Tryd.func116.trans (congrArg some (by kernel_rfl))
  f314 := Tryd.func127.trans (congrArg some (by kernel_rfl))
  t3 := Tryd.underlying3
  a3 := Tryd.isAgg3
  z3 := Tryd.sizeOf3
  v3 := Tryd.zeroValue3
  t4 := Tryd.underlying4
  a4 := Tryd.isAgg4
  z4 := Tryd.sizeOf4
  v4 := Tryd.zeroValue4
  t5 := Tryd.underlying5
  a5 := Tryd.isAgg5
  z5 := Tryd.sizeOf5
  v5 := Tryd.zeroValue5
  t9 := Tryd.underlying9
  a9 := Tryd.isAgg9
  z9 := Tryd.sizeOf9
  v9 := Tryd.zeroValue9
  t46 := Tryd.underlying120
  a46 := Tryd.isAgg120
  z46 := Tryd.sizeOf120
  v46 := Tryd.zeroValue120
  t51 := Tryd.underlying118
  a51 := Tryd.isAgg118
  z51 := Tryd.sizeOf118
  v51 := Tryd.zeroValue118
  t59 := Tryd.underlying44
  a59 := Tryd.isAgg44
  z59 := Tryd.sizeOf44
  v59 := Tryd.zeroValue44
  t146 := Tryd.underlying200
  a146 := Tryd.isAgg200
  z146 := Tryd.sizeOf200
  v146 := Tryd.zeroValue200
  g1 := by kernel_rfl
  i3 := by kernel_rfl
  i4 := by kernel_rfl
  i5 := by kernel_rfl
  i9 := by kernel_rfl
  i46 := by kernel_rfl
  i51 := by kernel_rfl
  i59 := by kernel_rfl
  i146 := by kernel_rfl
  m1 := by kernel_rfl
  s1_3 := fun w h => Go.Proofs.cell_of_shapedOpen_int (zero := #[.int .i64 0]) (t := 3) h (of_decide_eq_true (by kernel_rfl)) (by kernel_rfl) rfl (by kernel_rfl) (by kernel_rfl) Tryd.underlying3 }
open Go.RowKit Go.Lib in
theorem Tryd.strings_Cut_shaped (s sep : ByteArray) (w : World) (h : w.ShapedOpen Tryd.prog) (hs : s.size < 4294967281) :
    Calls Tryd.prog 38 #[.string s, .string sep] w fun e w' => e = .returned (.tuple #[.string ⟨(Lib.cut s.data.toList sep.data.toList).1.toArray⟩, .string ⟨(Lib.cut s.data.toList sep.data.toList).2.1.toArray⟩, .bool (Lib.cut s.data.toList sep.data.toList).2.2]) ∧ ∃ n, w' = w.drewN n := Any.strings_Cut_shaped Tryd.laysM145 s sep w h hs
def Tryd.laysM138_ren : Go.Shelf.Ren := ⟨fun | 138 => 83 | 195 => 105 | 218 => 106 | 143 => 84 | 219 => 92 | 217 => 94 | 225 => 114 | 224 => 115 | 267 => 116 | 266 => 118 | 314 => 127 | n => n, fun | 9 => 9 | 3 => 3 | 4 => 4 | 5 => 5 | 0 => 0 | 46 => 120 | 146 => 200 | 51 => 118 | n => n, fun | 1 => 3 | n => n⟩
theorem Tryd.laysM138 : Go.Proofs.LaysM.n138 Tryd.prog Tryd.laysM138_ren := {
  mixed := by kernel_rfl
  f138 := Tryd.func83.trans (congrArg some (by kernel_rfl))
  f143 := Tryd.func84.trans (congrArg some (by kernel_rfl))
  f195 := Tryd.func105.trans (congrArg some (by kernel_rfl))
  f217 := Tryd.func94.trans (congrArg some (by kernel_rfl))
  f218 := Tryd.func106.trans (congrArg some (by kernel_rfl))
  f219 := Tryd.func92.trans (congrArg some (by kernel_rfl))
  f224 := Tryd.func115.trans (congrArg some (by kernel_rfl))
  f225 := Tryd.func114.trans (congrArg some (by kernel_rfl))
  f266 := Tryd.func118.trans (congrArg some (by kernel_rfl))
  f267 := Tryd.func116.trans (congrArg some (by kernel_rfl))
  f314 := Tryd.func127.trans (congrArg some (by kernel_rfl))
  t0 := Tryd.underlying0
  a0 := Tryd.isAgg0
  z0 := Tryd.sizeOf0
  v0 := Tryd.zeroValue0
  t3 := Tryd.underlying3
  a3 := Tryd.isAgg3
  z3 := Tryd.sizeOf3
  v3 := Tryd.zeroValue3
  t4 := Tryd.underlying4
  a4 := Tryd.isAgg4
  z4 := Tryd.sizeOf4
  v4 := Tryd.zeroValue4
  t5 := Tryd.underlying5
  a5 := Tryd.isAgg5
  z5 := Tryd.sizeOf5
  v5 := Tryd.zeroValue5
  t9 := Tryd.underlying9
  a9 := Tryd.isAgg9
  z9 := Tryd.sizeOf9
  v9 := Tryd.zeroValue9
  t46 := Tryd.underlying120
  a46 := Tryd.isAgg120
  z46 := Tryd.sizeOf120
  v46 := Tryd.zeroValue120
  t51 := Tryd.underlying118
  a51 := Tryd.isAgg118
  z51 := Tryd.sizeOf118
  v51 := Tryd.zeroValue118
  t146 := Tryd.underlying200
  a146 := Tryd.isAgg200
  z146 := Tryd.sizeOf200
  v146 := Tryd.zeroValue200
  g1 := by kernel_rfl
  i0 := by kernel_rfl
  i3 := by kernel_rfl
  i4 := by kernel_rfl
  i5 := by kernel_rfl
  i9 := by kernel_rfl
  i46 := by kernel_rfl
  i51 := by kernel_rfl
  i146 := by kernel_rfl
  m1 := by kernel_rfl
  s1_3 := fun w h => Go.Proofs.cell_of_shapedOpen_int (zero := #[.int .i64 0]) (t := 3) h (of_decide_eq_true (by kernel_rfl)) (by kernel_rfl) rfl (by kernel_rfl) (by kernel_rfl) Tryd.underlying3 }
open Go.RowKit Go.Lib in
theorem Tryd.strings_Count_shaped (s sub : ByteArray) (w : World) (h : w.ShapedOpen Tryd.prog) (hs : s.size < 4294967281) (h2 : 2 ≤ sub.size) :
    Calls Tryd.prog 83 #[.string s, .string sub] w fun e w' => e = .returned (.int .i64 (Lib.countB s sub)) ∧ w' = w := Any.strings_Count_shaped Tryd.laysM138 s sub w h hs h2
def Tryd.lays206_ren : Go.Shelf.Ren := ⟨fun | 206 => 179 | n => n, fun | 9 => 9 | 4 => 4 | 3 => 3 | n => n, fun | n => n⟩
theorem Tryd.lays206 : Go.Proofs.Lays.n206 Tryd.prog Tryd.lays206_ren := {
  mixed := by kernel_rfl
  f206 := Tryd.func179.trans (congrArg some (by kernel_rfl))
  t3 := Tryd.underlying3
  a3 := Tryd.isAgg3
  z3 := Tryd.sizeOf3
  v3 := Tryd.zeroValue3
  t4 := Tryd.underlying4
  a4 := Tryd.isAgg4
  z4 := Tryd.sizeOf4
  v4 := Tryd.zeroValue4
  t9 := Tryd.underlying9
  a9 := Tryd.isAgg9
  z9 := Tryd.sizeOf9
  v9 := Tryd.zeroValue9 }
open Go.RowKit Go.Lib in
/-- internal/stringslite.HasPrefix (what strings.HasPrefix calls). (LAID: no walk: one application.) -/
theorem Tryd.stringslite_HasPrefix (s p : ByteArray) (w : World) :
    Calls Tryd.prog 179 #[.string s, .string p] w fun e w' => e = .returned (.bool (Lib.hasPrefix s.data.toList p.data.toList)) ∧ w' = w := Any.stringslite_HasPrefix Tryd.lays206 s p w
def Tryd.lays207_ren : Go.Shelf.Ren := ⟨fun | 207 => 117 | n => n, fun | 9 => 9 | 4 => 4 | 3 => 3 | n => n, fun | n => n⟩
theorem Tryd.lays207 : Go.Proofs.Lays.n207 Tryd.prog Tryd.lays207_ren := {
  mixed := by kernel_rfl
  f207 := Tryd.func117.trans (congrArg some (by kernel_rfl))
  t3 := Tryd.underlying3
  a3 := Tryd.isAgg3
  z3 := Tryd.sizeOf3
  v3 := Tryd.zeroValue3
  t4 := Tryd.underlying4
  a4 := Tryd.isAgg4
  z4 := Tryd.sizeOf4
  v4 := Tryd.zeroValue4
  t9 := Tryd.underlying9
  a9 := Tryd.isAgg9
  z9 := Tryd.sizeOf9
  v9 := Tryd.zeroValue9 }
open Go.RowKit Go.Lib in
/-- internal/stringslite.HasSuffix (what strings.HasSuffix calls). (LAID: no walk: one application.) -/
theorem Tryd.stringslite_HasSuffix (s p : ByteArray) (w : World) (hs : s.size ≤ 9223372036854775807) :
    Calls Tryd.prog 117 #[.string s, .string p] w fun e w' => e = .returned (.bool (Lib.hasSuffix s.data.toList p.data.toList)) ∧ w' = w := Any.stringslite_HasSuffix Tryd.lays207 s p w hs
def Tryd.lays100_ren : Go.Shelf.Ren := ⟨fun | 100 => 93 | 207 => 117 | n => n, fun | 9 => 9 | 4 => 4 | 3 => 3 | n => n, fun | n => n⟩
theorem Tryd.lays100 : Go.Proofs.Lays.n100 Tryd.prog Tryd.lays100_ren := {
  mixed := by kernel_rfl
  f100 := Tryd.func93.trans (congrArg some (by kernel_rfl))
  f207 := Tryd.func117.trans (congrArg some (by kernel_rfl))
  t3 := Tryd.underlying3
  a3 := Tryd.isAgg3
  z3 := Tryd.sizeOf3
  v3 := Tryd.zeroValue3
  t4 := Tryd.underlying4
  a4 := Tryd.isAgg4
  z4 := Tryd.sizeOf4
  v4 := Tryd.zeroValue4
  t9 := Tryd.underlying9
  a9 := Tryd.isAgg9
  z9 := Tryd.sizeOf9
  v9 := Tryd.zeroValue9 }
open Go.RowKit Go.Lib in
/-- strings.HasSuffix: "HasSuffix reports whether the string s ends with suffix.": IT RETURNS 'Lib.hasSuffix s suffix'; the world is as it was. ('hs': no Go string is longer: a caller has it of every string that it was handed.) (LAID: no walk: one application.) -/
theorem Tryd.strings_HasSuffix (s p : ByteArray) (w : World) (hs : s.size ≤ 9223372036854775807) :
    Calls Tryd.prog 93 #[.string s, .string p] w fun e w' => e = .returned (.bool (Lib.hasSuffix s.data.toList p.data.toList)) ∧ w' = w := Any.strings_HasSuffix Tryd.lays100 s p w hs
open Go.RowKit Go.Lib in
/-- strings.Count at whatever sep that is not empty: the two roads under one statement. (LAID: no walk: one application.) -/
theorem Tryd.strings_Count_any (s sep : ByteArray) (m : Int) (w : World) (hs : s.size < 4294967281) (hm : w.cell? ⟨3, 0, none⟩ = some (.int .i64 m)) (h1 : 1 ≤ sep.size) :
    Calls Tryd.prog 83 #[.string s, .string sep] w fun e w' => e = .returned (.int .i64 (Lib.countB s sep)) ∧ w' = w := Any.strings_Count_any Tryd.lays138 s sep m w hs hm h1
def Tryd.lays221_ren : Go.Shelf.Ren := ⟨fun | 221 => 53 | 268 => 82 | 138 => 83 | 143 => 84 | 195 => 105 | 197 => 96 | 218 => 106 | 219 => 92 | 260 => 119 | 217 => 94 | 225 => 114 | 224 => 115 | 267 => 116 | 266 => 118 | 314 => 127 | n => n, fun | 9 => 9 | 3 => 3 | 31 => 38 | 4 => 4 | 0 => 0 | 105 => 158 | 21 => 21 | 5 => 5 | 46 => 120 | 119 => 202 | 139 => 205 | 138 => 204 | 146 => 200 | 51 => 118 | n => n, fun | 1 => 3 | 3 => 5 | 4 => 6 | n => n⟩
theorem Tryd.lays221 : Go.Proofs.Lays.n221 Tryd.prog Tryd.lays221_ren := {
  mixed := by kernel_rfl
  f138 := Tryd.func83.trans (congrArg some (by kernel_rfl))
  f143 := Tryd.func84.trans (congrArg some (by kernel_rfl))
  f195 := Tryd.func105.trans (congrArg some (by kernel_rfl))
  f197 := Tryd.func96.trans (congrArg some (by kernel_rfl))
  f217 := Tryd.func94.trans (congrArg some (by kernel_rfl))
  f218 := Tryd.func106.trans (congrArg some (by kernel_rfl))
  f219 := Tryd.func92.trans (congrArg some (by kernel_rfl))
  f221 := Tryd.func53.trans (congrArg some (by kernel_rfl))
  f224 := Tryd.func115.trans (congrArg some (by kernel_rfl))
  f225 := Tryd.func114.trans (congrArg some (by kernel_rfl))
  f260 := Tryd.func119.trans (congrArg some (by kernel_rfl))
  f266 := Tryd.func118.trans (congrArg some (by kernel_rfl))
  f267 := Tryd.func116.trans (congrArg some (by kernel_rfl))
  f268 := Tryd.func82.trans (congrArg some (by kernel_rfl))
  f314 := Tryd.func127.trans (congrArg some (by kernel_rfl))
  t0 := Tryd.underlying0
  a0 := Tryd.isAgg0
  z0 := Tryd.sizeOf0
  v0 := Tryd.zeroValue0
  t3 := Tryd.underlying3
  a3 := Tryd.isAgg3
  z3 := Tryd.sizeOf3
  v3 := Tryd.zeroValue3
  t4 := Tryd.underlying4
  a4 := Tryd.isAgg4
  z4 := Tryd.sizeOf4
  v4 := Tryd.zeroValue4
  t5 := Tryd.underlying5
  a5 := Tryd.isAgg5
  z5 := Tryd.sizeOf5
  v5 := Tryd.zeroValue5
  t9 := Tryd.underlying9
  a9 := Tryd.isAgg9
  z9 := Tryd.sizeOf9
  v9 := Tryd.zeroValue9
  t21 := Tryd.underlying21
  a21 := Tryd.isAgg21
  z21 := Tryd.sizeOf21
  v21 := Tryd.zeroValue21
  t31 := Tryd.underlying38
  a31 := Tryd.isAgg38
  z31 := Tryd.sizeOf38
  v31 := Tryd.zeroValue38
  t46 := Tryd.underlying120
  a46 := Tryd.isAgg120
  z46 := Tryd.sizeOf120
  v46 := Tryd.zeroValue120
  t51 := Tryd.underlying118
  a51 := Tryd.isAgg118
  z51 := Tryd.sizeOf118
  v51 := Tryd.zeroValue118
  t105 := Tryd.underlying158
  a105 := Tryd.isAgg158
  z105 := Tryd.sizeOf158
  v105 := Tryd.zeroValue158
  t119 := Tryd.underlying202
  a119 := Tryd.isAgg202
  z119 := Tryd.sizeOf202
  t138 := Tryd.underlying204
  a138 := Tryd.isAgg204
  z138 := Tryd.sizeOf204
  v138 := Tryd.zeroValue204
  t139 := Tryd.underlying205
  a139 := Tryd.isAgg205
  z139 := Tryd.sizeOf205
  v139 := Tryd.zeroValue205
  t146 := Tryd.underlying200
  a146 := Tryd.isAgg200
  z146 := Tryd.sizeOf200
  v146 := Tryd.zeroValue200
  g1 := by kernel_rfl
  g3 := by kernel_rfl
  g4 := by kernel_rfl }
open Go.RowKit Go.Lib in
theorem Tryd.strings_genSplit (s sep : ByteArray) (sv : Nat) (n : Int) (N : Nat) (m : Int) (w : World) (hs : s.size < 4294967281) (hm : w.cell? ⟨3, 0, none⟩ = some (.int .i64 m)) (h1 : 1 ≤ sep.size) (hsv : sv ≤ sep.size) (hn0 : n ≠ 0) (hn63 : n ≤ 9223372036854775807) (hN : (N : Int) = min (if n < 0 then (Lib.countB s sep : Int) + 1 else n) ((s.size : Int) + 1)) :
    Calls Tryd.prog 53 #[.string s, .string sep, .int .i64 sv, .int .i64 n] w fun e w' =>
      e = .returned (.slice (some ⟨w.heap.size, 0, none⟩) (Lib.splitB sep sv (N - 1) s).length N) ∧ w' = w.alloc (.cells (Lib.cellsOf (Lib.splitB sep sv (N - 1) s) N) 9) := Any.strings_genSplit Tryd.lays221 (by kernel_rfl) s sep sv n N m w hs hm h1 hsv hn0 hn63 hN
def Tryd.lays146_ren : Go.Shelf.Ren := ⟨fun | 146 => 29 | 221 => 53 | 268 => 82 | 138 => 83 | 143 => 84 | 195 => 105 | 197 => 96 | 218 => 106 | 219 => 92 | 260 => 119 | 217 => 94 | 225 => 114 | 224 => 115 | 267 => 116 | 266 => 118 | 314 => 127 | n => n, fun | 9 => 9 | 31 => 38 | 3 => 3 | 4 => 4 | 0 => 0 | 105 => 158 | 21 => 21 | 5 => 5 | 46 => 120 | 119 => 202 | 139 => 205 | 138 => 204 | 146 => 200 | 51 => 118 | n => n, fun | 1 => 3 | 3 => 5 | 4 => 6 | n => n⟩
theorem Tryd.lays146 : Go.Proofs.Lays.n146 Tryd.prog Tryd.lays146_ren := {
  mixed := by kernel_rfl
  f138 := Tryd.func83.trans (congrArg some (by kernel_rfl))
  f143 := Tryd.func84.trans (congrArg some (by kernel_rfl))
  f146 := Tryd.func29.trans (congrArg some (by kernel_rfl))
  f195 := Tryd.func105.trans (congrArg some (by kernel_rfl))
  f197 := Tryd.func96.trans (congrArg some (by kernel_rfl))
  f217 := Tryd.func94.trans (congrArg some (by kernel_rfl))
  f218 := Tryd.func106.trans (congrArg some (by kernel_rfl))
  f219 := Tryd.func92.trans (congrArg some (by kernel_rfl))
  f221 := Tryd.func53.trans (congrArg some (by kernel_rfl))
  f224 := Tryd.func115.trans (congrArg some (by kernel_rfl))
  f225 := Tryd.func114.trans (congrArg some (by kernel_rfl))
  f260 := Tryd.func119.trans (congrArg some (by kernel_rfl))
  f266 := Tryd.func118.trans (congrArg some (by kernel_rfl))
  f267 := Tryd.func116.trans (congrArg some (by kernel_rfl))
  f268 := Tryd.func82.trans (congrArg some (by kernel_rfl))
  f314 := Tryd.func127.trans (congrArg some (by kernel_rfl))
  t0 := Tryd.underlying0
  a0 := Tryd.isAgg0
  z0 := Tryd.sizeOf0
  v0 := Tryd.zeroValue0
  t3 := Tryd.underlying3
  a3 := Tryd.isAgg3
  z3 := Tryd.sizeOf3
  v3 := Tryd.zeroValue3
  t4 := Tryd.underlying4
  a4 := Tryd.isAgg4
  z4 := Tryd.sizeOf4
  v4 := Tryd.zeroValue4
  t5 := Tryd.underlying5
  a5 := Tryd.isAgg5
  z5 := Tryd.sizeOf5
  v5 := Tryd.zeroValue5
  t9 := Tryd.underlying9
  a9 := Tryd.isAgg9
  z9 := Tryd.sizeOf9
  v9 := Tryd.zeroValue9
  t21 := Tryd.underlying21
  a21 := Tryd.isAgg21
  z21 := Tryd.sizeOf21
  v21 := Tryd.zeroValue21
  t31 := Tryd.underlying38
  a31 := Tryd.isAgg38
  z31 := Tryd.sizeOf38
  v31 := Tryd.zeroValue38
  t46 := Tryd.underlying120
  a46 := Tryd.isAgg120
  z46 := Tryd.sizeOf120
  v46 := Tryd.zeroValue120
  t51 := Tryd.underlying118
  a51 := Tryd.isAgg118
  z51 := Tryd.sizeOf118
  v51 := Tryd.zeroValue118
  t105 := Tryd.underlying158
  a105 := Tryd.isAgg158
  z105 := Tryd.sizeOf158
  v105 := Tryd.zeroValue158
  t119 := Tryd.underlying202
  a119 := Tryd.isAgg202
  z119 := Tryd.sizeOf202
  t138 := Tryd.underlying204
  a138 := Tryd.isAgg204
  z138 := Tryd.sizeOf204
  v138 := Tryd.zeroValue204
  t139 := Tryd.underlying205
  a139 := Tryd.isAgg205
  z139 := Tryd.sizeOf205
  v139 := Tryd.zeroValue205
  t146 := Tryd.underlying200
  a146 := Tryd.isAgg200
  z146 := Tryd.sizeOf200
  v146 := Tryd.zeroValue200
  g1 := by kernel_rfl
  g3 := by kernel_rfl
  g4 := by kernel_rfl }
open Go.RowKit Go.Lib in
/-- strings.Split. (LAID: no walk: one application.) -/
theorem Tryd.strings_Split (s sep : ByteArray) (m : Int) (w : World) (hs : s.size < 4294967281) (hm : w.cell? ⟨3, 0, none⟩ = some (.int .i64 m)) (h1 : 1 ≤ sep.size) :
    Calls Tryd.prog 29 #[.string s, .string sep] w fun e w' =>
      e = .returned (.slice (some ⟨w.heap.size, 0, none⟩) (Lib.countB s sep + 1) (Lib.countB s sep + 1)) ∧ w' = w.alloc (.cells ((Lib.splitB sep 0 (Lib.countB s sep) s).map Value.string).toArray 9) := Any.strings_Split Tryd.lays146 (by kernel_rfl) s sep m w hs hm h1
def Tryd.laysM146_ren : Go.Shelf.Ren := ⟨fun | 146 => 29 | 221 => 53 | 268 => 82 | 138 => 83 | 143 => 84 | 195 => 105 | 197 => 96 | 218 => 106 | 219 => 92 | 260 => 119 | 217 => 94 | 225 => 114 | 224 => 115 | 267 => 116 | 266 => 118 | 314 => 127 | n => n, fun | 9 => 9 | 31 => 38 | 3 => 3 | 4 => 4 | 0 => 0 | 105 => 158 | 21 => 21 | 5 => 5 | 46 => 120 | 119 => 202 | 139 => 205 | 138 => 204 | 146 => 200 | 51 => 118 | n => n, fun | 1 => 3 | 3 => 5 | 4 => 6 | n => n⟩
theorem Tryd.laysM146 : Go.Proofs.LaysM.n146 Tryd.prog Tryd.laysM146_ren := {
  mixed := by kernel_rfl
  f138 := Tryd.func83.trans (congrArg some (by kernel_rfl))
  f143 := Tryd.func84.trans (congrArg some (by kernel_rfl))
  f146 := Tryd.func29.trans (congrArg some (by kernel_rfl))
  f195 := Tryd.func105.trans (congrArg some (by kernel_rfl))
  f197 := Tryd.func96.trans (congrArg some (by kernel_rfl))
  f217 := Tryd.func94.trans (congrArg some (by kernel_rfl))
  f218 := Tryd.func106.trans (congrArg some (by kernel_rfl))
  f219 := Tryd.func92.trans (congrArg some (by kernel_rfl))
  f221 := Tryd.func53.trans (congrArg some (by kernel_rfl))
  f224 := Tryd.func115.trans (congrArg some (by kernel_rfl))
  f225 := Tryd.func114.trans (congrArg some (by kernel_rfl))
  f260 := Tryd.func119.trans (congrArg some (by kernel_rfl))
  f266 := Tryd.func118.trans (congrArg some (by kernel_rfl))
  f267 := Tryd.func116.trans (congrArg some (by kernel_rfl))
  f268 := Tryd.func82.trans (congrArg some (by kernel_rfl))
  f314 := Tryd.func127.trans (congrArg some (by kernel_rfl))
  t0 := Tryd.underlying0
  a0 := Tryd.isAgg0
  z0 := Tryd.sizeOf0
  v0 := Tryd.zeroValue0
  t3 := Tryd.underlying3
  a3 := Tryd.isAgg3
  z3 := Tryd.sizeOf3
  v3 := Tryd.zeroValue3
  t4 := Tryd.underlying4
  a4 := Tryd.isAgg4
  z4 := Tryd.sizeOf4
  v4 := Tryd.zeroValue4
  t5 := Tryd.underlying5
  a5 := Tryd.isAgg5
  z5 := Tryd.sizeOf5
  v5 := Tryd.zeroValue5
  t9 := Tryd.underlying9
  a9 := Tryd.isAgg9
  z9 := Tryd.sizeOf9
  v9 := Tryd.zeroValue9
  t21 := Tryd.underlying21
  a21 := Tryd.isAgg21
  z21 := Tryd.sizeOf21
  v21 := Tryd.zeroValue21
  t31 := Tryd.underlying38
  a31 := Tryd.isAgg38
  z31 := Tryd.sizeOf38
  v31 := Tryd.zeroValue38
  t46 := Tryd.underlying120
  a46 := Tryd.isAgg120
  z46 := Tryd.sizeOf120
  v46 := Tryd.zeroValue120
  t51 := Tryd.underlying118
  a51 := Tryd.isAgg118
  z51 := Tryd.sizeOf118
  v51 := Tryd.zeroValue118
  t105 := Tryd.underlying158
  a105 := Tryd.isAgg158
  z105 := Tryd.sizeOf158
  v105 := Tryd.zeroValue158
  t119 := Tryd.underlying202
  a119 := Tryd.isAgg202
  z119 := Tryd.sizeOf202
  t138 := Tryd.underlying204
  a138 := Tryd.isAgg204
  z138 := Tryd.sizeOf204
  v138 := Tryd.zeroValue204
  t139 := Tryd.underlying205
  a139 := Tryd.isAgg205
  z139 := Tryd.sizeOf205
  v139 := Tryd.zeroValue205
  t146 := Tryd.underlying200
  a146 := Tryd.isAgg200
  z146 := Tryd.sizeOf200
  v146 := Tryd.zeroValue200
  g1 := by kernel_rfl
  g3 := by kernel_rfl
  g4 := by kernel_rfl
  i0 := by kernel_rfl
  i3 := by kernel_rfl
  i4 := by kernel_rfl
  i5 := by kernel_rfl
  i9 := by kernel_rfl
  i21 := by kernel_rfl
  i31 := by kernel_rfl
  i46 := by kernel_rfl
  i51 := by kernel_rfl
  i105 := by kernel_rfl
  i138 := by kernel_rfl
  i139 := by kernel_rfl
  i146 := by kernel_rfl
  m1 := by kernel_rfl
  s1_3 := fun w h => Go.Proofs.cell_of_shapedOpen_int (zero := #[.int .i64 0]) (t := 3) h (of_decide_eq_true (by kernel_rfl)) (by kernel_rfl) rfl (by kernel_rfl) (by kernel_rfl) Tryd.underlying3
  m3 := by kernel_rfl
  m4 := by kernel_rfl }
open Go.RowKit Go.Lib in
/-- strings.Split, sep not empty. (LAID: no walk: one application.) -/
theorem Tryd.strings_Split_shaped (s sep : ByteArray) (w : World) (h : w.ShapedOpen Tryd.prog) (hs : s.size < 4294967281) (h1 : 1 ≤ sep.size) :
    Calls Tryd.prog 29 #[.string s, .string sep] w fun e w' =>
      e = .returned (.slice (some ⟨w.heap.size, 0, none⟩) (Lib.countB s sep + 1) (Lib.countB s sep + 1)) ∧ w' = w.alloc (.cells ((Lib.splitB sep 0 (Lib.countB s sep) s).map Value.string).toArray 9) := Any.strings_Split_shaped Tryd.laysM146 s sep w h hs h1
def Tryd.lays152_ren : Go.Shelf.Ren := ⟨fun | 152 => 120 | 137 => 64 | 119 => 128 | 224 => 115 | 225 => 114 | 217 => 94 | 266 => 118 | n => n, fun | 9 => 9 | 21 => 21 | 3 => 3 | 4 => 4 | 5 => 5 | 0 => 0 | 46 => 120 | n => n, fun | n => n⟩
theorem Tryd.lays152 : Go.Proofs.Lays.n152 Tryd.prog Tryd.lays152_ren := {
  mixed := by kernel_rfl
  f119 := Tryd.func128.trans (congrArg some (by kernel_rfl))
  f137 := Tryd.func64.trans (congrArg some (by kernel_rfl))
  f152 := Tryd.func120.trans (congrArg some (by kernel_rfl))
  f217 := Tryd.func94.trans (congrArg some (by kernel_rfl))
  f224 := Tryd.func115.trans (congrArg some (by kernel_rfl))
  f225 := Tryd.func114.trans (congrArg some (by kernel_rfl))
  f266 := Tryd.func118.trans (congrArg some (by kernel_rfl))
  t0 := Tryd.underlying0
  a0 := Tryd.isAgg0
  z0 := Tryd.sizeOf0
  v0 := Tryd.zeroValue0
  t3 := Tryd.underlying3
  a3 := Tryd.isAgg3
  z3 := Tryd.sizeOf3
  v3 := Tryd.zeroValue3
  t4 := Tryd.underlying4
  a4 := Tryd.isAgg4
  z4 := Tryd.sizeOf4
  v4 := Tryd.zeroValue4
  t5 := Tryd.underlying5
  a5 := Tryd.isAgg5
  z5 := Tryd.sizeOf5
  v5 := Tryd.zeroValue5
  t9 := Tryd.underlying9
  a9 := Tryd.isAgg9
  z9 := Tryd.sizeOf9
  v9 := Tryd.zeroValue9
  t21 := Tryd.underlying21
  a21 := Tryd.isAgg21
  z21 := Tryd.sizeOf21
  v21 := Tryd.zeroValue21
  t46 := Tryd.underlying120
  a46 := Tryd.isAgg120
  z46 := Tryd.sizeOf120
  v46 := Tryd.zeroValue120 }
open Go.RowKit Go.Lib in
theorem Tryd.strings_IndexRune_ascii (s : ByteArray) (r : Int) (w : World) (h0 : 0 ≤ r) (h1 : r < 128) :
    Calls Tryd.prog 120 #[.string s, .int .i32 r] w fun e w' => e = .returned (.int .i64 (Lib.indexByte s.data.toList r.toNat.toUInt8)) ∧ w' = w := Any.strings_IndexRune_ascii Tryd.lays152 s r w h0 h1
def Tryd.lays151_ren : Go.Shelf.Ren := ⟨fun | 151 => 97 | 152 => 120 | 137 => 64 | 119 => 128 | 224 => 115 | 225 => 114 | 217 => 94 | 266 => 118 | n => n, fun | 9 => 9 | 21 => 21 | 4 => 4 | 3 => 3 | 5 => 5 | 0 => 0 | 46 => 120 | n => n, fun | n => n⟩
theorem Tryd.lays151 : Go.Proofs.Lays.n151 Tryd.prog Tryd.lays151_ren := {
  mixed := by kernel_rfl
  f119 := Tryd.func128.trans (congrArg some (by kernel_rfl))
  f137 := Tryd.func64.trans (congrArg some (by kernel_rfl))
  f151 := Tryd.func97.trans (congrArg some (by kernel_rfl))
  f152 := Tryd.func120.trans (congrArg some (by kernel_rfl))
  f217 := Tryd.func94.trans (congrArg some (by kernel_rfl))
  f224 := Tryd.func115.trans (congrArg some (by kernel_rfl))
  f225 := Tryd.func114.trans (congrArg some (by kernel_rfl))
  f266 := Tryd.func118.trans (congrArg some (by kernel_rfl))
  t0 := Tryd.underlying0
  a0 := Tryd.isAgg0
  z0 := Tryd.sizeOf0
  v0 := Tryd.zeroValue0
  t3 := Tryd.underlying3
  a3 := Tryd.isAgg3
  z3 := Tryd.sizeOf3
  v3 := Tryd.zeroValue3
  t4 := Tryd.underlying4
  a4 := Tryd.isAgg4
  z4 := Tryd.sizeOf4
  v4 := Tryd.zeroValue4
  t5 := Tryd.underlying5
  a5 := Tryd.isAgg5
  z5 := Tryd.sizeOf5
  v5 := Tryd.zeroValue5
  t9 := Tryd.underlying9
  a9 := Tryd.isAgg9
  z9 := Tryd.sizeOf9
  v9 := Tryd.zeroValue9
  t21 := Tryd.underlying21
  a21 := Tryd.isAgg21
  z21 := Tryd.sizeOf21
  v21 := Tryd.zeroValue21
  t46 := Tryd.underlying120
  a46 := Tryd.isAgg120
  z46 := Tryd.sizeOf120
  v46 := Tryd.zeroValue120 }
open Go.RowKit Go.Lib in
theorem Tryd.strings_ContainsRune_ascii (s : ByteArray) (r : Int) (w : World) (h0 : 0 ≤ r) (h1 : r < 128) :
    Calls Tryd.prog 97 #[.string s, .int .i32 r] w fun e w' => e = .returned (.bool (decide (0 ≤ Lib.indexByte s.data.toList r.toNat.toUInt8))) ∧ w' = w := Any.strings_ContainsRune_ascii Tryd.lays151 s r w h0 h1
def Tryd.lays227_ren : Go.Shelf.Ren := ⟨fun | 227 => 66 | n => n, fun | 9 => 9 | 116 => 123 | 4 => 4 | 0 => 0 | 3 => 3 | 5 => 5 | n => n, fun | n => n⟩
theorem Tryd.lays227 : Go.Proofs.Lays.n227 Tryd.prog Tryd.lays227_ren := {
  mixed := by kernel_rfl
  f227 := Tryd.func66.trans (congrArg some (by kernel_rfl))
  t0 := Tryd.underlying0
  a0 := Tryd.isAgg0
  z0 := Tryd.sizeOf0
  v0 := Tryd.zeroValue0
  t3 := Tryd.underlying3
  a3 := Tryd.isAgg3
  z3 := Tryd.sizeOf3
  v3 := Tryd.zeroValue3
  t4 := Tryd.underlying4
  a4 := Tryd.isAgg4
  z4 := Tryd.sizeOf4
  v4 := Tryd.zeroValue4
  t5 := Tryd.underlying5
  a5 := Tryd.isAgg5
  z5 := Tryd.sizeOf5
  v5 := Tryd.zeroValue5
  t9 := Tryd.underlying9
  a9 := Tryd.isAgg9
  z9 := Tryd.sizeOf9
  v9 := Tryd.zeroValue9
  t116 := Tryd.underlying123
  a116 := Tryd.isAgg123
  z116 := Tryd.sizeOf123 }
open Go.RowKit Go.Lib in
theorem Tryd.strings_makeASCIISet (hv116 : ∀ w, (zeroValue 123).run Tryd.prog w = .ok (.agg (Array.replicate 256 (.bool false))) w) (chars : ByteArray) (w : World) (hs : chars.size < 4294967281) (hascii : ∀ (j : Nat) b, chars.data.toList[j]? = some b → b.toNat < 128) :
    Calls Tryd.prog 66 #[.string chars] w fun e w' => e = .returned (.tuple #[.agg (Lib.setCells chars.data.toList), .bool true]) ∧ w' = w.alloc (.cells (Lib.setCells chars.data.toList) 123) := Any.strings_makeASCIISet Tryd.lays227 hv116 (by kernel_rfl) chars w hs hascii
def Tryd.lays228_ren : Go.Shelf.Ren := ⟨fun | 228 => 95 | n => n, fun | 124 => 127 | 5 => 5 | 4 => 4 | 0 => 0 | 116 => 123 | n => n, fun | n => n⟩
theorem Tryd.lays228 : Go.Proofs.Lays.n228 Tryd.prog Tryd.lays228_ren := {
  mixed := by kernel_rfl
  f228 := Tryd.func95.trans (congrArg some (by kernel_rfl))
  t0 := Tryd.underlying0
  a0 := Tryd.isAgg0
  z0 := Tryd.sizeOf0
  v0 := Tryd.zeroValue0
  t4 := Tryd.underlying4
  a4 := Tryd.isAgg4
  z4 := Tryd.sizeOf4
  v4 := Tryd.zeroValue4
  t5 := Tryd.underlying5
  a5 := Tryd.isAgg5
  z5 := Tryd.sizeOf5
  v5 := Tryd.zeroValue5
  t116 := Tryd.underlying123
  a116 := Tryd.isAgg123
  z116 := Tryd.sizeOf123
  t124 := Tryd.underlying127
  a124 := Tryd.isAgg127
  z124 := Tryd.sizeOf127
  v124 := Tryd.zeroValue127 }
open Go.RowKit Go.Lib in
/-- '(as *asciiSet) contains(c)': 'as[c]': the set lies at block b, whole. (LAID: no walk: one application.) -/
theorem Tryd.asciiSet_contains (b : Nat) (x : UInt8) (v : Bool) (w : World) (hc : w.cell? ⟨b, x.toNat, none⟩ = some (.bool v)) :
    Calls Tryd.prog 95 #[.pointer (some ⟨b, 0, none⟩), .int .u8 x.toNat] w fun e w' => e = .returned (.bool v) ∧ w' = w := Any.asciiSet_contains Tryd.lays228 b x v w hc
def Tryd.lays260_ren : Go.Shelf.Ren := ⟨fun | 260 => 119 | n => n, fun | 9 => 9 | 21 => 21 | 3 => 3 | 4 => 4 | 5 => 5 | 119 => 202 | 0 => 0 | 46 => 120 | 139 => 205 | 138 => 204 | n => n, fun | 3 => 5 | 4 => 6 | n => n⟩
theorem Tryd.lays260 : Go.Proofs.Lays.n260 Tryd.prog Tryd.lays260_ren := {
  mixed := by kernel_rfl
  f260 := Tryd.func119.trans (congrArg some (by kernel_rfl))
  t0 := Tryd.underlying0
  a0 := Tryd.isAgg0
  z0 := Tryd.sizeOf0
  v0 := Tryd.zeroValue0
  t3 := Tryd.underlying3
  a3 := Tryd.isAgg3
  z3 := Tryd.sizeOf3
  v3 := Tryd.zeroValue3
  t4 := Tryd.underlying4
  a4 := Tryd.isAgg4
  z4 := Tryd.sizeOf4
  v4 := Tryd.zeroValue4
  t5 := Tryd.underlying5
  a5 := Tryd.isAgg5
  z5 := Tryd.sizeOf5
  v5 := Tryd.zeroValue5
  t9 := Tryd.underlying9
  a9 := Tryd.isAgg9
  z9 := Tryd.sizeOf9
  v9 := Tryd.zeroValue9
  t21 := Tryd.underlying21
  a21 := Tryd.isAgg21
  z21 := Tryd.sizeOf21
  v21 := Tryd.zeroValue21
  t46 := Tryd.underlying120
  a46 := Tryd.isAgg120
  z46 := Tryd.sizeOf120
  v46 := Tryd.zeroValue120
  t119 := Tryd.underlying202
  a119 := Tryd.isAgg202
  z119 := Tryd.sizeOf202
  t138 := Tryd.underlying204
  a138 := Tryd.isAgg204
  z138 := Tryd.sizeOf204
  v138 := Tryd.zeroValue204
  t139 := Tryd.underlying205
  a139 := Tryd.isAgg205
  z139 := Tryd.sizeOf205
  v139 := Tryd.zeroValue205
  g3 := by kernel_rfl
  g4 := by kernel_rfl }
open Go.RowKit Go.Lib in
theorem Tryd.utf8_decodeRuneInStringSlow (s : ByteArray) (w : World) (hT : Lib.Utf8Tabs 5 6 w) :
    Calls Tryd.prog 119 #[.string s] w fun e w' => e = .returned (.tuple #[.int .i32 (Lib.decodeGo s).1, .int .i64 (Lib.decodeGo s).2]) ∧ Below w.heap.size w w' := Any.utf8_decodeRuneInStringSlow Tryd.lays260 s w hT
end Go.Proofs
end
