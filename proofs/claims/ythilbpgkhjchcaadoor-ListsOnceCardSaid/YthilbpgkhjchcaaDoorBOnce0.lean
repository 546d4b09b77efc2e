/- Plain words on byte arrays as lists of bytes, for the pure statements of the print. Lists of texts, in plain words: the pieces of a text between commas, texts without blanks around them. What the references' functions on texts give: comparisons of lists, bytes in texts, tokens, lower case, blanks. A range over an iterator that keeps state of its own in cells: what the iterator and the rounds promise each other (the sets of blocks are named), and the law of the statement. Conditions: none beyond those that each theorem states. -/
import Derived.Test.YthilbpgkhjchcaaDoorWWords
import Derived.Laws.Strings
import Derived.Laws.BytesArg
import Derived.Lib.Bytealg
import Derived.Lib.IndexBytes
import Derived.Test.YthilbpgkhjchcaaDoorProg
import Derived.Below
import Derived.Deep.Draws
import Derived.Deep.AppendLies
import Derived.Maps.AppendAt
import Derived.OwnWalk
import Derived.Laws.MakeOwn
import Derived.Laws.OwnMore
import Derived.Deep.OwnRows
import Derived.Tactics
import Derived.Lib.ConvBytes
import Derived.Laws.Slices
import Derived.WalkKit
import Derived.KernelRfl
import Derived.RowKit3
import Derived.Deep.LoopGhost
import Derived.Deep.QuietTactic
import Derived.BigQuiet
import Derived.WideLaws
import Derived.Deep.DeepCutAuto
import Derived.Deep.CutBlock
import Derived.Deep.RegionHeld3
import Derived.Laws.Rows
import Derived.Lib.AppendStr
import Derived.ArgAppend
import Derived.Laws.IdiomCopy
import Derived.OrdersHeld
import Derived.Laws.BitsLemmas
import Derived.RowKit
import Derived.Test.YthilbpgkhjchcaaDoorWLast
import Derived.Test.YthilbpgkhjchcaaDoorWTab
import Derived.Test.YthilbpgkhjchcaaDoorWFour
import Derived.Test.YthilbpgkhjchcaaDoorWQPut
import Derived.Test.YthilbpgkhjchcaaDoorWApart
import Derived.Test.YthilbpgkhjchcaaDoorWArr
import Derived.Test.YthilbpgkhjchcaaDoorWZeros
import Derived.Test.YthilbpgkhjchcaaDoorWFoot
import Derived.Test.YthilbpgkhjchcaaDoorWKept
import Derived.Test.YthilbpgkhjchcaaDoorWShare
import Derived.Test.YthilbpgkhjchcaaDoorWN
import Derived.Test.YthilbpgkhjchcaaDoorWFootNe
import Derived.Test.YthilbpgkhjchcaaDoorWAt
import Derived.Test.YthilbpgkhjchcaaDoorWEqStruct
import Derived.Test.YthilbpgkhjchcaaDoorWRepsOne
import Derived.Test.YthilbpgkhjchcaaDoorWInv
import Derived.Test.YthilbpgkhjchcaaDoorWInvWords
import Derived.Test.YthilbpgkhjchcaaDoorWGuard
import Derived.Test.YthilbpgkhjchcaaDoorWNEv
import Derived.Test.YthilbpgkhjchcaaDoorWMore
import Derived.RangeFuncNested
import Derived.RangeFuncBound
import Derived.RangeFuncCalls
import Derived.RangeFuncLeaves
import Derived.RangeFuncBox
import Derived.Shelf.Abstract
import Derived.Shelf.RegionOpen
import Derived.OwnWalkIn
import Derived.TacticsInMore
import Derived.LoopNIn
import Derived.LoopIn
import Derived.Maps.OwnIn

section
namespace Go.Proofs.YthilbpgkhjchcaaDoor.PB
open Go Go.RowKit Go.Proofs.YthilbpgkhjchcaaDoorW.PrintWords

def toL (s : ByteArray) : List UInt8 := s.data.toList
def ofL (l : List UInt8) : ByteArray := ⟨l.toArray⟩
theorem toL_ofL (l : List UInt8) : toL (ofL l) = l := rfl
theorem ofL_toL (s : ByteArray) : ofL (toL s) = s := by cases s; simp [ofL, toL]
theorem toL_inj {a b : ByteArray} (h : toL a = toL b) : a = b := by rw [← ofL_toL a, ← ofL_toL b, h]
theorem toL_length (s : ByteArray) : (toL s).length = s.size := by rw [toL, Array.length_toList]; rfl
theorem size_ofL (l : List UInt8) : (ofL l).size = l.length := by rw [← toL_length, toL_ofL]
theorem toList_toL (s : ByteArray) : s.toList = toL s := ByteArray.toList_eq s
theorem toList_ofL (l : List UInt8) : (ofL l).toList = l := by rw [toList_toL, toL_ofL]
theorem toL_extract (s : ByteArray) (i j : Nat) : toL (s.extract i j) = ((toL s).drop i).take (j - i) := by
  simp [toL, ByteArray.data_extract, Array.toList_extract, List.extract_eq_take_drop]
theorem extract_ofL (l : List UInt8) (i j : Nat) : (ofL l).extract i j = ofL ((l.drop i).take (j - i)) := toL_inj (by rw [toL_extract, toL_ofL, toL_ofL])
theorem toL_append (a b : ByteArray) : toL (a ++ b) = toL a ++ toL b := by simp [toL]
theorem append_ofL (a b : List UInt8) : ofL a ++ ofL b = ofL (a ++ b) := toL_inj (by rw [toL_append, toL_ofL, toL_ofL, toL_ofL])
theorem bt_toL (s : ByteArray) (i : Int) : bt s i = (((toL s)[i.toNat]?.getD 0).toNat : Int) := by
  unfold bt
  split
  · rename_i h
    have h' : i.toNat < (toL s).length := by rw [toL_length]; exact h
    rw [List.getElem?_eq_getElem h']; rfl
  · rename_i h
    rw [List.getElem?_eq_none (by rw [toL_length]; omega)]; rfl
theorem bt_ofL (l : List UInt8) (i : Int) : bt (ofL l) i = ((l[i.toNat]?.getD 0).toNat : Int) := by rw [bt_toL, toL_ofL]
theorem wrap64_ok {x : Int} (h0 : -9223372036854775808 ≤ x) (h1 : x ≤ 9223372036854775807) : wrap64 x = x := by unfold wrap64; omega
theorem u8_eq_nat (c : UInt8) (n : Nat) (hn : n < 256) : ((c.toNat : Int) = (n : Int)) ↔ c = UInt8.ofNat n := by
  constructor
  · intro h
    have : c.toNat = n := by omega
    rw [← this]; simp
  · rintro rfl
    simp [UInt8.toNat_ofNat]; omega
theorem strOfNums_nat (l : List UInt8) : strOfNums (l.map fun c => (c.toNat : Int)) = ofL l := by
  simp [strOfNums, ofL, Function.comp_def]
theorem ne_nil_split (l : List UInt8) (h : l ≠ []) : ∃ a x, l = a ++ [x] := ⟨l.dropLast, l.getLast h, (List.dropLast_concat_getLast h).symm⟩

end Go.Proofs.YthilbpgkhjchcaaDoor.PB
end

section
namespace Go.Proofs.YthilbpgkhjchcaaDoor.LSpec
open Go Go.Lib Go.Proofs.YthilbpgkhjchcaaDoor.PB

/-- the pieces between the bytes c. -/
def splitL (c : UInt8) : List UInt8 → List (List UInt8)
  | [] => [[]]
  | x :: r => if x = c then [] :: splitL c r else match splitL c r with
    | [] => [[x]]
    | p :: ps => (x :: p) :: ps

theorem splitL_ne (c : UInt8) (l : List UInt8) : splitL c l ≠ [] := by
  cases l with
  | nil => simp [splitL]
  | cons x r => simp only [splitL]; split <;> (try split) <;> simp
theorem splitL_none {c : UInt8} {l : List UInt8} (h : ∀ x ∈ l, x ≠ c) : splitL c l = [l] := by
  induction l with
  | nil => rfl
  | cons x r ih =>
    simp only [splitL]
    rw [if_neg (h x (by simp)), ih (fun y hy => h y (by simp [hy]))]
theorem splitL_hit {c : UInt8} {a b : List UInt8} (h : ∀ x ∈ a, x ≠ c) : splitL c (a ++ c :: b) = a :: splitL c b := by
  induction a with
  | nil => simp [splitL]
  | cons x r ih =>
    simp only [List.cons_append, splitL]
    rw [if_neg (h x (by simp)), ih (fun y hy => h y (by simp [hy]))]
theorem splitL_length (c : UInt8) (l : List UInt8) : (splitL c l).length ≤ l.length + 1 := by
  induction l with
  | nil => simp [splitL]
  | cons x r ih =>
    simp only [splitL]
    split
    · simp; omega
    · split
      · simp
      · rename_i p ps e; rw [e] at ih; simp at ih ⊢; omega

theorem indexByte_spec (l : List UInt8) (c : UInt8) : (indexByte l c = -1 ∧ ∀ x ∈ l, x ≠ c) ∨
    ∃ a b, l = a ++ c :: b ∧ indexByte l c = a.length ∧ ∀ x ∈ a, x ≠ c := by
  induction l with
  | nil => exact .inl ⟨rfl, by simp⟩
  | cons x r ih =>
    by_cases e : x = c
    · exact .inr ⟨[], r, by simp [e], by simp [indexByte, e], by simp⟩
    · rcases ih with ⟨h1, h2⟩ | ⟨a, b, h1, h2, h3⟩
      · exact .inl ⟨by simp [indexByte, e, h1], fun y hy => by
          rcases List.mem_cons.1 hy with rfl | hy
          · exact e
          · exact h2 y hy⟩
      · refine .inr ⟨x :: a, b, by simp [h1], ?_, fun y hy => ?_⟩
        · have : ¬ ((a.length : Int) = -1) := by omega
          simp [indexByte, e, h2, this]
        · rcases List.mem_cons.1 hy with rfl | hy
          · exact e
          · exact h3 y hy

/-- at a text with c at i first: the piece ahead of it; the pieces behind it. -/
theorem split_at {c : UInt8} (s : ByteArray) : (indexByte (toL s) c = -1 ∧ splitL c (toL s) = [toL s]) ∨
    ∃ i : Nat, i < s.size ∧ indexByte (toL s) c = (i : Int) ∧ splitL c (toL s) = toL (s.extract 0 i) :: splitL c (toL (s.extract (i + 1) s.size)) := by
  rcases indexByte_spec (toL s) c with ⟨h1, h2⟩ | ⟨a, b, h1, h2, h3⟩
  · exact .inl ⟨h1, splitL_none h2⟩
  · have hl := toL_length s
    refine .inr ⟨a.length, by rw [← hl, h1]; simp, h2, ?_⟩
    rw [toL_extract, toL_extract, ← hl, h1]
    have e1 : List.drop (a.length + 1) (a ++ c :: b) = b := by
      rw [← List.drop_drop]; simp
    have e2 : List.take ((a ++ c :: b).length - (a.length + 1)) b = b := List.take_of_length_le (by simp; omega)
    rw [e1, splitL_hit h3, e2]
    simp

def blankL (c : UInt8) : Bool := c == 32 || c == 9
/-- a text without blanks around it. -/
def trimL (l : List UInt8) : List UInt8 := ((l.dropWhile blankL).reverse.dropWhile blankL).reverse
theorem trimL_length (l : List UInt8) : (trimL l).length ≤ l.length := by
  have h1 := (List.dropWhile_sublist blankL (l := l)).length_le
  have h2 := (List.dropWhile_sublist blankL (l := (l.dropWhile blankL).reverse)).length_le
  simp only [List.length_reverse] at h2
  simp only [trimL, List.length_reverse]
  omega
/-- the elements of a text. -/
def elemsL (l : List UInt8) : List (List UInt8) := ((splitL 44 l).map trimL).filter (fun p => !p.isEmpty)
/-- the elements of texts, one after the other. -/
def elemsAll (l : List ByteArray) : List (List UInt8) := (l.map (fun s => elemsL (toL s))).flatten
def total (l : List ByteArray) : Nat := (l.map (fun s => s.size + 1)).sum

theorem total_mem {l : List ByteArray} {s : ByteArray} (h : s ∈ l) : s.size ≤ total l := by
  induction l with
  | nil => simp at h
  | cons a r ih =>
    simp only [total, List.map_cons, List.sum_cons] at ih ⊢
    rcases List.mem_cons.1 h with rfl | h
    · omega
    · have := ih h; omega
theorem total_length (l : List ByteArray) : l.length ≤ total l := by
  induction l with
  | nil => simp [total]
  | cons a r ih => simp only [total, List.map_cons, List.sum_cons, List.length_cons] at ih ⊢; omega
theorem elemsL_length (l : List UInt8) : (elemsL l).length ≤ l.length + 1 :=
  Nat.le_trans (List.length_filter_le _ _) (by simpa using splitL_length 44 l)
theorem elemsAll_length (l : List ByteArray) : (elemsAll l).length ≤ total l := by
  induction l with
  | nil => simp [elemsAll, total]
  | cons s r ih =>
    have h1 := elemsL_length (toL s)
    rw [toL_length] at h1
    simp only [elemsAll, total, List.map_cons, List.flatten_cons, List.length_append, List.sum_cons] at ih ⊢
    omega
theorem elemsAll_append (a b : List ByteArray) : elemsAll (a ++ b) = elemsAll a ++ elemsAll b := by simp [elemsAll]
theorem elemsAll_one (s : ByteArray) : elemsAll [s] = elemsL (toL s) := by simp [elemsAll]

end Go.Proofs.YthilbpgkhjchcaaDoor.LSpec
end

section
namespace Go.Proofs.YthilbpgkhjchcaaDoor.P
open Go.RowKit Go.Proofs.YthilbpgkhjchcaaDoorW.PrintWords Go.Proofs.YthilbpgkhjchcaaDoorW.PrintLast Go.Proofs.YthilbpgkhjchcaaDoorW.PrintMore
attribute [local go_sem] max2_int min2_int max_two min_two max_three min_three max_four min_four   -- for this text's walks alone
set_option linter.unusedVariables false
set_option linter.unusedSimpArgs false



def errW : Option Int → Value
  | none => .nilIface
  | some c => .iface 0 (.int .i64 c)
theorem errW_none : errW none = .nilIface := rfl
theorem errW_some (c : Int) : errW (some c) = .iface 0 (.int .i64 c) := rfl

theorem info5 : (Tryd.prog.info? 5).map (fun i => (i.zero, i.size, i.bytes)) = some (some (.int .u8 0), 1, 1) := by kernel_rfl
theorem info9 : (Tryd.prog.info? 9).map (fun i => (i.zero, i.size, i.bytes)) = some (some (.string ⟨#[]⟩), 1, 16) := by kernel_rfl
-- the values' own types
def rd_L1 (xs : List (List ByteArray)) (i : Int) : (List ByteArray) := xs.getD i.toNat ([] : List ByteArray)
theorem at_L1 {w : World} {A : Option Addr} {n : Nat} {xs : List (List ByteArray)} (h : Kd.C (Kd.slice 9 Kd.string) w A n xs) (i : Int) (h0 : 0 ≤ i) (h1 : i < n) : ∃ ad A0 c0, A = some ad ∧ w.cell? (ad.add i.toNat) = some (.slice A0 (rd_L1 xs i).length c0) ∧ (rd_L1 xs i).length ≤ c0 ∧ Kd.string.C w A0 (rd_L1 xs i).length (rd_L1 xs i) := by
  obtain ⟨ad, c, e, _, hK, hc0⟩ := Kd.C_get h ([] : List ByteArray) i h0 h1
  have hc : ∀ j u, c[j]? = some u → w.cell? (ad.add (i.toNat * 1 + j)) = some u := hc0
  obtain ⟨A0, c0, rfl, l0, g0⟩ := hK
  exact ⟨ad, A0, c0, e, by have hq := hc 0 _ rfl; rwa [Nat.mul_one, Nat.add_zero] at hq, l0, g0⟩

end Go.Proofs.YthilbpgkhjchcaaDoor.P
end

section
namespace Go.Proofs.YthilbpgkhjchcaaDoor.P
open Go.RowKit Go.Proofs.YthilbpgkhjchcaaDoorW.PrintWords Go.Proofs.YthilbpgkhjchcaaDoorW.PrintLast Go.Proofs.YthilbpgkhjchcaaDoorW.PrintMore
attribute [local go_sem] max2_int min2_int max_two min_two max_three min_three max_four min_four   -- for this text's walks alone
set_option linter.unusedVariables false
set_option linter.unusedSimpArgs false

/-! ### doorkeeperref02_Trim: function 21 -/
mutual
def doorkeeperref02_Trim.j1 : Nat → ByteArray → Int → Option (ByteArray)
  | 0, _, _ => none
  | k + 1, x0, x3 => doorkeeperref02_Trim.l1 k x0 x3 (x0.size : Int)
def doorkeeperref02_Trim.l1 : Nat → ByteArray → Int → Int → Option (ByteArray)
  | 0, _, _, _ => none
  | k + 1, x0, x3, x4 => if x4 > x3 then (if 0 ≤ (wrap64 (x4 - 1)) then (if (wrap64 (x4 - 1)) < (x0.size : Int) then (if (bt x0 (wrap64 (x4 - 1))) = 32 then (doorkeeperref02_Trim.l1 k x0 x3 (wrap64 (x4 - 1))) else (if (bt x0 (wrap64 (x4 - 1))) = 9 then (doorkeeperref02_Trim.l1 k x0 x3 (wrap64 (x4 - 1))) else (if 0 ≤ x3 then (if x3 ≤ x4 then (if x4 ≤ (x0.size : Int) then (some (x0.extract (x3 : Int).toNat (x4 : Int).toNat)) else (none)) else (none)) else (none)))) else (none)) else (none)) else (if 0 ≤ x3 then (if x3 ≤ x4 then (if x4 ≤ (x0.size : Int) then (some (x0.extract (x3 : Int).toNat (x4 : Int).toNat)) else (none)) else (none)) else (none))
def doorkeeperref02_Trim.l0 : Nat → ByteArray → Int → Option (ByteArray)
  | 0, _, _ => none
  | k + 1, x0, x3 => if x3 < (x0.size : Int) then (if 0 ≤ x3 then (if (bt x0 x3) = 32 then (doorkeeperref02_Trim.l0 k x0 (wrap64 (x3 + 1))) else (if (bt x0 x3) = 9 then (doorkeeperref02_Trim.l0 k x0 (wrap64 (x3 + 1))) else (doorkeeperref02_Trim.j1 k x0 x3))) else (none)) else (doorkeeperref02_Trim.j1 k x0 x3)
end
def doorkeeperref02_Trim.f (k : Nat) (a0 : ByteArray) : Option (ByteArray) := doorkeeperref02_Trim.l0 k a0 0
theorem doorkeeperref02_Trim.mono_l : ∀ k, (∀ y0 y1, LeO (doorkeeperref02_Trim.j1 k y0 y1) (doorkeeperref02_Trim.j1 (k + 1) y0 y1)) ∧ (∀ y0 y1 y2, LeO (doorkeeperref02_Trim.l1 k y0 y1 y2) (doorkeeperref02_Trim.l1 (k + 1) y0 y1 y2)) ∧ (∀ y0 y1, LeO (doorkeeperref02_Trim.l0 k y0 y1) (doorkeeperref02_Trim.l0 (k + 1) y0 y1))
  | 0 => ⟨fun _ _ r h => by simp [doorkeeperref02_Trim.j1] at h, fun _ _ _ r h => by simp [doorkeeperref02_Trim.l1] at h, fun _ _ r h => by simp [doorkeeperref02_Trim.l0] at h⟩
  | k + 1 => by
    obtain ⟨ih0, ih1, ih2⟩ := doorkeeperref02_Trim.mono_l k
    refine ⟨?_, ?_, ?_⟩
    · intro y0 y1
      unfold doorkeeperref02_Trim.j1
      repeat' first
      | (with_reducible exact ih0 _ _)
      | (with_reducible exact ih1 _ _ _)
      | (with_reducible exact ih2 _ _)
      | (with_reducible exact LeO.refl _)
      | (with_reducible exact LeO.none _)
      | (with_reducible refine LeO.ite ?_ ?_)
      | (with_reducible refine LeO.bind ?_ (fun _ => ?_))
      | exact ih0 _ _
      | exact ih1 _ _ _
      | exact ih2 _ _
      | exact LeO.none _
      | refine LeO.ite ?_ ?_
      | refine LeO.bind ?_ (fun _ => ?_)
    · intro y0 y1 y2
      unfold doorkeeperref02_Trim.l1
      repeat' first
      | (with_reducible exact ih0 _ _)
      | (with_reducible exact ih1 _ _ _)
      | (with_reducible exact ih2 _ _)
      | (with_reducible exact LeO.refl _)
      | (with_reducible exact LeO.none _)
      | (with_reducible refine LeO.ite ?_ ?_)
      | (with_reducible refine LeO.bind ?_ (fun _ => ?_))
      | exact ih0 _ _
      | exact ih1 _ _ _
      | exact ih2 _ _
      | exact LeO.none _
      | refine LeO.ite ?_ ?_
      | refine LeO.bind ?_ (fun _ => ?_)
    · intro y0 y1
      unfold doorkeeperref02_Trim.l0
      repeat' first
      | (with_reducible exact ih0 _ _)
      | (with_reducible exact ih1 _ _ _)
      | (with_reducible exact ih2 _ _)
      | (with_reducible exact LeO.refl _)
      | (with_reducible exact LeO.none _)
      | (with_reducible refine LeO.ite ?_ ?_)
      | (with_reducible refine LeO.bind ?_ (fun _ => ?_))
      | exact ih0 _ _
      | exact ih1 _ _ _
      | exact ih2 _ _
      | exact LeO.none _
      | refine LeO.ite ?_ ?_
      | refine LeO.bind ?_ (fun _ => ?_)
theorem doorkeeperref02_Trim.mono : ∀ a0 k, LeO (doorkeeperref02_Trim.f k a0) (doorkeeperref02_Trim.f (k + 1) a0) := by
  intro a0 k
  obtain ⟨ih0, ih1, ih2⟩ := doorkeeperref02_Trim.mono_l k
  unfold doorkeeperref02_Trim.f
  repeat' first
      | (with_reducible exact ih0 _ _)
      | (with_reducible exact ih1 _ _ _)
      | (with_reducible exact ih2 _ _)
      | (with_reducible exact LeO.refl _)
      | (with_reducible exact LeO.none _)
      | (with_reducible refine LeO.ite ?_ ?_)
      | (with_reducible refine LeO.bind ?_ (fun _ => ?_))
      | exact ih0 _ _
      | exact ih1 _ _ _
      | exact ih2 _ _
      | exact LeO.none _
      | refine LeO.ite ?_ ?_
      | refine LeO.bind ?_ (fun _ => ?_)
set_option maxHeartbeats 8000000 in
set_option maxRecDepth 100000 in
theorem doorkeeperref02_Trim.calls (k : Nat) (a0 : ByteArray) (r : ByteArray) (w : World) (h : doorkeeperref02_Trim.f k a0 = some r) :
    Calls Tryd.prog 21 #[.string a0] w fun e w' => e = .returned (.string r) ∧ Drawn0 w w' := by
  have H : (doorkeeperref02_Trim.l0 k a0 0) = some r := h
  clear h
  have HC2 := Aside0.mk H
  clear H
  go_enter Tryd.func21, Tryd.ntmps21
  go_upto_block 0 with (fail)
  go_cut [3] (fun v3 wc => ∃ (kq : Nat) (x3_1 : Int), v3 = .int .i64 x3_1 ∧ Aside0 (doorkeeperref02_Trim.j1 kq a0 x3_1 = some r) ∧ Aside0 (kq ≤ k) ∧ Drawn0 w wc)
  case first =>
    have H := HC2.out
    clear HC2
    have H' := Aside0.mk H
    clear H
    go_wp2
    go_loopg [3] k (fun kq v3 w' => ∃ (x3_1 : Int), v3 = .int .i64 x3_1 ∧ Aside0 (doorkeeperref02_Trim.l0 kq a0 x3_1 = some r) ∧ Aside0 (kq ≤ k) ∧ Drawn0 w w')
    case atStart => exact ⟨(0), (by first | rfl | (simp; done) | (simp [*]; done)), H', ⟨Nat.le_refl _⟩, by repeat (first | exact Drawn0.refl _ | apply Drawn0.step)⟩
    case round =>
      clear H'
      try clear c2
      try clear p2
      obtain ⟨x3_1, rfl, HA, HK1, ⟨m1, rfl⟩⟩ := hrel
      cases gk with
      | zero => exact absurd HA.out (by simp [doorkeeperref02_Trim.l0])
      | succ k1 =>
        have H := HA.out
        clear HA
        simp only [doorkeeperref02_Trim.l0] at H
        by_cases c3 : x3_1 < (a0.size : Int)
        · rw [if_pos c3] at H
          have c3b0 : decide (x3_1 < (a0.size : Int)) = true := decide_eq_true c3
          clear c3
          (first | rw [c3b0] | (simp only [i64_w, i32_w]; rw [c3b0]) | skip)
          by_cases c4 : 0 ≤ x3_1
          · rw [if_pos c4] at H
            have c4b0 : decide (0 ≤ x3_1) = true := decide_eq_true c4
            clear c4
            by_cases c6 : (bt a0 x3_1) = 32
            · rw [if_pos c6] at H
              have c6b0 : ((bt a0 x3_1) == 32) = true := beq_iff_eq.mpr c6
              have c6b1 : ((bt a0 x3_1) != 32) = false := bne_eq_false_iff_eq.mpr c6
              clear c6
              have H' := Aside0.mk H
              clear H
              have p5 : 0 ≤ (x3_1 : Int) := of_decide_eq_true (by first | (with_reducible assumption) | assumption)
              have q5 : x3_1 < (a0.size : Int) := of_decide_eq_true (by first | (with_reducible assumption) | assumption)
              have hx5 := bt_at a0 x3_1
              replace p5 := eq_true p5
              replace q5 := eq_true q5
              go_wp2
              go_roundg k1
              case measure => have := HK1.out; omega
              case rel => exact ⟨(wrap64 (x3_1 + 1)), (by first | rfl | (simp; done) | (simp [*]; done)), H', ⟨by have := HK1.out; omega⟩, by repeat (first | exact Drawn0.refl _ | apply Drawn0.step)⟩
            · rw [if_neg c6] at H
              have c6b0 : ((bt a0 x3_1) == 32) = false := beq_eq_false_iff_ne.mpr c6
              have c6b1 : ((bt a0 x3_1) != 32) = true := bne_iff_ne.mpr c6
              by_cases c8 : (bt a0 x3_1) = 9
              · rw [if_pos c8] at H
                have c8b0 : ((bt a0 x3_1) == 9) = true := beq_iff_eq.mpr c8
                have c8b1 : ((bt a0 x3_1) != 9) = false := bne_eq_false_iff_eq.mpr c8
                clear c8
                have H' := Aside0.mk H
                clear H
                have p5 : 0 ≤ (x3_1 : Int) := of_decide_eq_true (by first | (with_reducible assumption) | assumption)
                have q5 : x3_1 < (a0.size : Int) := of_decide_eq_true (by first | (with_reducible assumption) | assumption)
                have hx5 := bt_at a0 x3_1
                replace p5 := eq_true p5
                replace q5 := eq_true q5
                have p7 : 0 ≤ (x3_1 : Int) := of_decide_eq_true (by first | (with_reducible assumption) | assumption)
                have q7 : x3_1 < (a0.size : Int) := of_decide_eq_true (by first | (with_reducible assumption) | assumption)
                have hx7 := bt_at a0 x3_1
                replace p7 := eq_true p7
                replace q7 := eq_true q7
                go_wp2
                go_roundg k1
                case measure => have := HK1.out; omega
                case rel => exact ⟨(wrap64 (x3_1 + 1)), (by first | rfl | (simp; done) | (simp [*]; done)), H', ⟨by have := HK1.out; omega⟩, by repeat (first | exact Drawn0.refl _ | apply Drawn0.step)⟩
              · rw [if_neg c8] at H
                have c8b0 : ((bt a0 x3_1) == 9) = false := beq_eq_false_iff_ne.mpr c8
                have c8b1 : ((bt a0 x3_1) != 9) = true := bne_iff_ne.mpr c8
                have H' := Aside0.mk H
                clear H
                have p5 : 0 ≤ (x3_1 : Int) := of_decide_eq_true (by first | (with_reducible assumption) | assumption)
                have q5 : x3_1 < (a0.size : Int) := of_decide_eq_true (by first | (with_reducible assumption) | assumption)
                have hx5 := bt_at a0 x3_1
                replace p5 := eq_true p5
                replace q5 := eq_true q5
                have p7 : 0 ≤ (x3_1 : Int) := of_decide_eq_true (by first | (with_reducible assumption) | assumption)
                have q7 : x3_1 < (a0.size : Int) := of_decide_eq_true (by first | (with_reducible assumption) | assumption)
                have hx7 := bt_at a0 x3_1
                replace p7 := eq_true p7
                replace q7 := eq_true q7
                go_wp2
                go_meet
                case rel => exact ⟨_, (x3_1), (by first | rfl | (simp; done) | (simp [*]; done)), H', ⟨by have := HK1.out; first | omega | exact Nat.le_refl _⟩, by repeat (first | exact Drawn0.refl _ | apply Drawn0.step)⟩
          · rw [if_neg c4] at H
            exact absurd H (by simp)
        · rw [if_neg c3] at H
          have c3b0 : decide (x3_1 < (a0.size : Int)) = false := decide_eq_false c3
          clear c3
          (first | rw [c3b0] | (simp only [i64_w, i32_w]; rw [c3b0]) | skip)
          have H' := Aside0.mk H
          clear H
          go_wp2
          go_meet
          case rel => exact ⟨_, (x3_1), (by first | rfl | (simp; done) | (simp [*]; done)), H', ⟨by have := HK1.out; first | omega | exact Nat.le_refl _⟩, by repeat (first | exact Drawn0.refl _ | apply Drawn0.step)⟩
  case rest =>
    clear HC2
    try clear c2
    try clear p2
    try clear c3
    try clear c3b0
    try clear c4
    try clear c4b0
    try clear p5
    try clear q5
    try clear hx5
    try clear c6
    try clear c6b0
    try clear c6b1
    try clear p6
    try clear p7
    try clear q7
    try clear hx7
    try clear c8
    try clear c8b0
    try clear c8b1
    try clear p2
    try clear p5
    try clear p7
    try clear q5
    try clear q7
    obtain ⟨kq, x3_1, rfl, HA, HJ1, ⟨mc1, rfl⟩⟩ := hcut
    cases kq with
    | zero => exact absurd HA.out (by simp [doorkeeperref02_Trim.j1])
    | succ kj1 =>
      have H := HA.out
      clear HA
      simp only [doorkeeperref02_Trim.j1] at H
      have H' := Aside0.mk H
      clear H
      go_wp2
      go_loopg [4] kj1 (fun kq v4 w' => ∃ (x4_2 : Int), v4 = .int .i64 x4_2 ∧ Aside0 (doorkeeperref02_Trim.l1 kq a0 x3_1 x4_2 = some r) ∧ Aside0 (kq ≤ kj1) ∧ Drawn0 w w')
      case atStart => exact ⟨((a0.size : Int)), (by first | rfl | (simp; done) | (simp [*]; done)), H', ⟨Nat.le_refl _⟩, by repeat (first | exact Drawn0.refl _ | apply Drawn0.step)⟩
      case round =>
        clear H'
        try clear c1
        try clear c2
        try clear p2
        try clear c3
        try clear c3b0
        try clear c4
        try clear c4b0
        try clear p5
        try clear q5
        try clear hx5
        try clear c6
        try clear c6b0
        try clear c6b1
        try clear p6
        try clear p7
        try clear q7
        try clear hx7
        try clear c8
        try clear c8b0
        try clear c8b1
        try clear p2
        try clear p5
        try clear p6
        try clear p7
        try clear q5
        try clear q7
        obtain ⟨x4_2, rfl, HA, HK2, ⟨m2, rfl⟩⟩ := hrel
        cases gk with
        | zero => exact absurd HA.out (by simp [doorkeeperref02_Trim.l1])
        | succ k2 =>
          have H := HA.out
          clear HA
          simp only [doorkeeperref02_Trim.l1] at H
          by_cases c9 : x4_2 > x3_1
          · rw [if_pos c9] at H
            have c9b0 : decide (x3_1 < x4_2) = true := decide_eq_true c9
            clear c9
            obtain ⟨ji10, hji10⟩ : ∃ j_ : Int, (wrap64 (x4_2 - 1)) = j_ := ⟨_, rfl⟩
            replace H : (if 0 ≤ (ji10) then (if (ji10) < (a0.size : Int) then (if (bt a0 (ji10)) = 32 then (doorkeeperref02_Trim.l1 k2 a0 x3_1 ji10) else (if (bt a0 (ji10)) = 9 then (doorkeeperref02_Trim.l1 k2 a0 x3_1 ji10) else (if 0 ≤ x3_1 then (if x3_1 ≤ x4_2 then (if x4_2 ≤ (a0.size : Int) then (some (a0.extract (x3_1 : Int).toNat (x4_2 : Int).toNat)) else (none)) else (none)) else (none)))) else (none)) else (none)) = some r := by first | (rw [hji10] at H; exact H) | (simp only [hji10] at H ⊢; exact H)
            have hji10w : (IntKind.i64.wrap (x4_2 - 1)) = ji10 := (i64_w _).trans hji10
            by_cases c11 : 0 ≤ (ji10)
            · rw [if_pos c11] at H
              have c11b0 : decide (0 ≤ (ji10)) = true := decide_eq_true c11
              clear c11
              by_cases c12 : (ji10) < (a0.size : Int)
              · rw [if_pos c12] at H
                have c12b0 : decide ((ji10) < (a0.size : Int)) = true := decide_eq_true c12
                clear c12
                by_cases c14 : (bt a0 (ji10)) = 32
                · rw [if_pos c14] at H
                  have c14b0 : ((bt a0 (ji10)) == 32) = true := beq_iff_eq.mpr c14
                  have c14b1 : ((bt a0 (ji10)) != 32) = false := bne_eq_false_iff_eq.mpr c14
                  clear c14
                  have H' := Aside0.mk H
                  clear H
                  have p13 : 0 ≤ ((ji10) : Int) := of_decide_eq_true (by first | (with_reducible assumption) | assumption)
                  have q13 : (ji10) < (a0.size : Int) := of_decide_eq_true (by first | (with_reducible assumption) | assumption)
                  have hx13 := bt_at a0 (ji10)
                  replace p13 := eq_true p13
                  replace q13 := eq_true q13
                  go_wp2
                  go_roundg k2
                  case measure => have := HJ1.out; have := HK2.out; omega
                  case rel => exact ⟨(ji10), (by first | rfl | (simp; done) | (simp only [← hji10] <;> (first | rfl | simp)) | (simp [*]; done)), H', ⟨by have := HJ1.out; have := HK2.out; omega⟩, by repeat (first | exact Drawn0.refl _ | apply Drawn0.step)⟩
                · rw [if_neg c14] at H
                  have c14b0 : ((bt a0 (ji10)) == 32) = false := beq_eq_false_iff_ne.mpr c14
                  have c14b1 : ((bt a0 (ji10)) != 32) = true := bne_iff_ne.mpr c14
                  by_cases c16 : (bt a0 (ji10)) = 9
                  · rw [if_pos c16] at H
                    have c16b0 : ((bt a0 (ji10)) == 9) = true := beq_iff_eq.mpr c16
                    have c16b1 : ((bt a0 (ji10)) != 9) = false := bne_eq_false_iff_eq.mpr c16
                    clear c16
                    have H' := Aside0.mk H
                    clear H
                    have p13 : 0 ≤ ((ji10) : Int) := of_decide_eq_true (by first | (with_reducible assumption) | assumption)
                    have q13 : (ji10) < (a0.size : Int) := of_decide_eq_true (by first | (with_reducible assumption) | assumption)
                    have hx13 := bt_at a0 (ji10)
                    replace p13 := eq_true p13
                    replace q13 := eq_true q13
                    have p15 : 0 ≤ ((ji10) : Int) := of_decide_eq_true (by first | (with_reducible assumption) | assumption)
                    have q15 : (ji10) < (a0.size : Int) := of_decide_eq_true (by first | (with_reducible assumption) | assumption)
                    have hx15 := bt_at a0 (ji10)
                    replace p15 := eq_true p15
                    replace q15 := eq_true q15
                    go_wp2
                    go_roundg k2
                    case measure => have := HJ1.out; have := HK2.out; omega
                    case rel => exact ⟨(ji10), (by first | rfl | (simp; done) | (simp only [← hji10] <;> (first | rfl | simp)) | (simp [*]; done)), H', ⟨by have := HJ1.out; have := HK2.out; omega⟩, by repeat (first | exact Drawn0.refl _ | apply Drawn0.step)⟩
                  · rw [if_neg c16] at H
                    have c16b0 : ((bt a0 (ji10)) == 9) = false := beq_eq_false_iff_ne.mpr c16
                    have c16b1 : ((bt a0 (ji10)) != 9) = true := bne_iff_ne.mpr c16
                    by_cases c17 : 0 ≤ x3_1
                    · rw [if_pos c17] at H
                      have c17b0 := eq_true c17
                      have c17b1 : decide (0 ≤ x3_1) = true := decide_eq_true c17
                      clear c17
                      by_cases c18 : x3_1 ≤ x4_2
                      · rw [if_pos c18] at H
                        have c18b0 := eq_true c18
                        have c18b1 : decide (x3_1 ≤ x4_2) = true := decide_eq_true c18
                        clear c18
                        by_cases c19 : x4_2 ≤ (a0.size : Int)
                        · rw [if_pos c19] at H
                          have c19b0 := eq_true c19
                          have c19b1 : decide (x4_2 ≤ (a0.size : Int)) = true := decide_eq_true c19
                          clear c19
                          obtain rfl := Option.some.inj H
                          have p13 : 0 ≤ ((ji10) : Int) := of_decide_eq_true (by first | (with_reducible assumption) | assumption)
                          have q13 : (ji10) < (a0.size : Int) := of_decide_eq_true (by first | (with_reducible assumption) | assumption)
                          have hx13 := bt_at a0 (ji10)
                          replace p13 := eq_true p13
                          replace q13 := eq_true q13
                          have p15 : 0 ≤ ((ji10) : Int) := of_decide_eq_true (by first | (with_reducible assumption) | assumption)
                          have q15 : (ji10) < (a0.size : Int) := of_decide_eq_true (by first | (with_reducible assumption) | assumption)
                          have hx15 := bt_at a0 (ji10)
                          replace p15 := eq_true p15
                          replace q15 := eq_true q15
                          go_wp2
                          go_ret
                          exact ⟨by first | rfl | (simp; done) | (simp only [← hji10] <;> (first | rfl | simp)) | (simp [*]; done), by repeat (first | exact Drawn0.refl _ | apply Drawn0.step)⟩
                        · rw [if_neg c19] at H
                          exact absurd H (by simp)
                      · rw [if_neg c18] at H
                        exact absurd H (by simp)
                    · rw [if_neg c17] at H
                      exact absurd H (by simp)
              · rw [if_neg c12] at H
                exact absurd H (by simp)
            · rw [if_neg c11] at H
              exact absurd H (by simp)
          · rw [if_neg c9] at H
            have c9b0 : decide (x3_1 < x4_2) = false := decide_eq_false c9
            clear c9
            by_cases c20 : 0 ≤ x3_1
            · rw [if_pos c20] at H
              have c20b0 := eq_true c20
              have c20b1 : decide (0 ≤ x3_1) = true := decide_eq_true c20
              clear c20
              by_cases c21 : x3_1 ≤ x4_2
              · rw [if_pos c21] at H
                have c21b0 := eq_true c21
                have c21b1 : decide (x3_1 ≤ x4_2) = true := decide_eq_true c21
                clear c21
                by_cases c22 : x4_2 ≤ (a0.size : Int)
                · rw [if_pos c22] at H
                  have c22b0 := eq_true c22
                  have c22b1 : decide (x4_2 ≤ (a0.size : Int)) = true := decide_eq_true c22
                  clear c22
                  obtain rfl := Option.some.inj H
                  go_wp2
                  go_ret
                  exact ⟨by first | rfl | (simp; done) | (simp [*]; done), by repeat (first | exact Drawn0.refl _ | apply Drawn0.step)⟩
                · rw [if_neg c22] at H
                  exact absurd H (by simp)
              · rw [if_neg c21] at H
                exact absurd H (by simp)
            · rw [if_neg c20] at H
              exact absurd H (by simp)

end Go.Proofs.YthilbpgkhjchcaaDoor.P
end

section
namespace Go.Proofs.YthilbpgkhjchcaaDoor.P
open Go.RowKit Go.Proofs.YthilbpgkhjchcaaDoorW.PrintWords Go.Proofs.YthilbpgkhjchcaaDoorW.PrintLast Go.Proofs.YthilbpgkhjchcaaDoorW.PrintMore
attribute [local go_sem] max2_int min2_int max_two min_two max_three min_three max_four min_four   -- for this text's walks alone
set_option linter.unusedVariables false
set_option linter.unusedSimpArgs false

/-! ### doorkeeperref02_In: function 22 -/
def doorkeeperref02_In.l0 : Nat → Int → ByteArray → Int → Option (Bool)
  | 0, _, _, _ => none
  | k + 1, x0, x1, x5 => if x5 < (x1.size : Int) then (if 0 ≤ x5 then (if (bt x1 x5) = x0 then (some true) else (doorkeeperref02_In.l0 k x0 x1 (wrap64 (x5 + 1)))) else (none)) else (some false)
def doorkeeperref02_In.f (k : Nat) (a0 : Int) (a1 : ByteArray) : Option (Bool) := doorkeeperref02_In.l0 k a0 a1 0
theorem doorkeeperref02_In.mono_l : ∀ k, (∀ y0 y1 y2, LeO (doorkeeperref02_In.l0 k y0 y1 y2) (doorkeeperref02_In.l0 (k + 1) y0 y1 y2))
  | 0 => fun _ _ _ r h => by simp [doorkeeperref02_In.l0] at h
  | k + 1 => by
    have ih0 := doorkeeperref02_In.mono_l k
    · intro y0 y1 y2
      unfold doorkeeperref02_In.l0
      repeat' first
      | (with_reducible exact ih0 _ _ _)
      | (with_reducible exact LeO.refl _)
      | (with_reducible exact LeO.none _)
      | (with_reducible refine LeO.ite ?_ ?_)
      | (with_reducible refine LeO.bind ?_ (fun _ => ?_))
      | exact ih0 _ _ _
      | exact LeO.none _
      | refine LeO.ite ?_ ?_
      | refine LeO.bind ?_ (fun _ => ?_)
theorem doorkeeperref02_In.mono : ∀ a0 a1 k, LeO (doorkeeperref02_In.f k a0 a1) (doorkeeperref02_In.f (k + 1) a0 a1) := by
  intro a0 a1 k
  have ih0 := doorkeeperref02_In.mono_l k
  unfold doorkeeperref02_In.f
  repeat' first
      | (with_reducible exact ih0 _ _ _)
      | (with_reducible exact LeO.refl _)
      | (with_reducible exact LeO.none _)
      | (with_reducible refine LeO.ite ?_ ?_)
      | (with_reducible refine LeO.bind ?_ (fun _ => ?_))
      | exact ih0 _ _ _
      | exact LeO.none _
      | refine LeO.ite ?_ ?_
      | refine LeO.bind ?_ (fun _ => ?_)
set_option maxHeartbeats 8000000 in
set_option maxRecDepth 100000 in
theorem doorkeeperref02_In.calls (k : Nat) (a0 : Int) (a1 : ByteArray) (r : Bool) (w : World) (h : doorkeeperref02_In.f k a0 a1 = some r) :
    Calls Tryd.prog 22 #[.int .u8 a0, .string a1] w fun e w' => e = .returned (.bool r) ∧ Drawn0 w w' := by
  have H : (doorkeeperref02_In.l0 k a0 a1 0) = some r := h
  clear h
  have H' := Aside0.mk H
  clear H
  go_enter Tryd.func22, Tryd.ntmps22
  go_wp2
  go_loopg [5] k (fun kq v5 w' => ∃ (x5_1 : Int), v5 = .int .i64 x5_1 ∧ Aside0 (doorkeeperref02_In.l0 kq a0 a1 x5_1 = some r) ∧ Aside0 (kq ≤ k) ∧ Drawn0 w w')
  case atStart => exact ⟨(0), (by first | rfl | (simp; done) | (simp [*]; done)), H', ⟨Nat.le_refl _⟩, by repeat (first | exact Drawn0.refl _ | apply Drawn0.step)⟩
  case round =>
    clear H'
    try clear c2
    try clear p2
    obtain ⟨x5_1, rfl, HA, HK1, ⟨m1, rfl⟩⟩ := hrel
    cases gk with
    | zero => exact absurd HA.out (by simp [doorkeeperref02_In.l0])
    | succ k1 =>
      have H := HA.out
      clear HA
      simp only [doorkeeperref02_In.l0] at H
      by_cases c3 : x5_1 < (a1.size : Int)
      · rw [if_pos c3] at H
        have c3b0 : decide (x5_1 < (a1.size : Int)) = true := decide_eq_true c3
        clear c3
        by_cases c4 : 0 ≤ x5_1
        · rw [if_pos c4] at H
          have c4b0 : decide (0 ≤ x5_1) = true := decide_eq_true c4
          clear c4
          by_cases c6 : (bt a1 x5_1) = a0
          · rw [if_pos c6] at H
            have c6b0 : ((bt a1 x5_1) == a0) = true := beq_iff_eq.mpr c6
            have c6b1 : ((bt a1 x5_1) != a0) = false := bne_eq_false_iff_eq.mpr c6
            clear c6
            obtain rfl := Option.some.inj H
            have p5 : 0 ≤ (x5_1 : Int) := of_decide_eq_true (by first | (with_reducible assumption) | assumption)
            have q5 : x5_1 < (a1.size : Int) := of_decide_eq_true (by first | (with_reducible assumption) | assumption)
            have hx5 := bt_at a1 x5_1
            replace p5 := eq_true p5
            replace q5 := eq_true q5
            go_wp2
            go_ret
            exact ⟨by first | rfl | (simp; done) | (simp [*]; done), by repeat (first | exact Drawn0.refl _ | apply Drawn0.step)⟩
          · rw [if_neg c6] at H
            have c6b0 : ((bt a1 x5_1) == a0) = false := beq_eq_false_iff_ne.mpr c6
            have c6b1 : ((bt a1 x5_1) != a0) = true := bne_iff_ne.mpr c6
            have H' := Aside0.mk H
            clear H
            have p5 : 0 ≤ (x5_1 : Int) := of_decide_eq_true (by first | (with_reducible assumption) | assumption)
            have q5 : x5_1 < (a1.size : Int) := of_decide_eq_true (by first | (with_reducible assumption) | assumption)
            have hx5 := bt_at a1 x5_1
            replace p5 := eq_true p5
            replace q5 := eq_true q5
            go_wp2
            go_roundg k1
            case measure => have := HK1.out; omega
            case rel => exact ⟨(wrap64 (x5_1 + 1)), (by first | rfl | (simp; done) | (simp [*]; done)), H', ⟨by have := HK1.out; omega⟩, by repeat (first | exact Drawn0.refl _ | apply Drawn0.step)⟩
        · rw [if_neg c4] at H
          exact absurd H (by simp)
      · rw [if_neg c3] at H
        have c3b0 : decide (x5_1 < (a1.size : Int)) = false := decide_eq_false c3
        clear c3
        obtain rfl := Option.some.inj H
        go_wp2
        go_ret
        exact ⟨by first | rfl | (simp; done) | (simp [*]; done), by repeat (first | exact Drawn0.refl _ | apply Drawn0.step)⟩

end Go.Proofs.YthilbpgkhjchcaaDoor.P
end

section
namespace Go.Proofs.YthilbpgkhjchcaaDoor.P
open Go.RowKit Go.Proofs.YthilbpgkhjchcaaDoorW.PrintWords Go.Proofs.YthilbpgkhjchcaaDoorW.PrintLast Go.Proofs.YthilbpgkhjchcaaDoorW.PrintMore
attribute [local go_sem] max2_int min2_int max_two min_two max_three min_three max_four min_four   -- for this text's walks alone
set_option linter.unusedVariables false
set_option linter.unusedSimpArgs false

/-! ### doorkeeperref02_letters: function 45 -/
def doorkeeperref02_letters.f  : Option (ByteArray) := some (⟨#[65, 66, 67, 68, 69, 70, 71, 72, 73, 74, 75, 76, 77, 78, 79, 80, 81, 82, 83, 84, 85, 86, 87, 88, 89, 90, 97, 98, 99, 100, 101, 102, 103, 104, 105, 106, 107, 108, 109, 110, 111, 112, 113, 114, 115, 116, 117, 118, 119, 120, 121, 122]⟩ : ByteArray)
set_option maxHeartbeats 8000000 in
set_option maxRecDepth 100000 in
theorem doorkeeperref02_letters.calls  (r : ByteArray) (w : World) (h : doorkeeperref02_letters.f  = some r) :
    Calls Tryd.prog 45 #[] w fun e w' => e = .returned (.string r) ∧ Drawn0 w w' := by
  have H : (some (⟨#[65, 66, 67, 68, 69, 70, 71, 72, 73, 74, 75, 76, 77, 78, 79, 80, 81, 82, 83, 84, 85, 86, 87, 88, 89, 90, 97, 98, 99, 100, 101, 102, 103, 104, 105, 106, 107, 108, 109, 110, 111, 112, 113, 114, 115, 116, 117, 118, 119, 120, 121, 122]⟩ : ByteArray)) = some r := h
  clear h
  obtain rfl := Option.some.inj H
  go_enter Tryd.func45, Tryd.ntmps45
  go_wp2
  go_ret
  exact ⟨by first | rfl | (simp; done) | (simp [*]; done), by repeat (first | exact Drawn0.refl _ | apply Drawn0.step)⟩

end Go.Proofs.YthilbpgkhjchcaaDoor.P
end

section
namespace Go.Proofs.YthilbpgkhjchcaaDoor.P
open Go.RowKit Go.Proofs.YthilbpgkhjchcaaDoorW.PrintWords Go.Proofs.YthilbpgkhjchcaaDoorW.PrintLast Go.Proofs.YthilbpgkhjchcaaDoorW.PrintMore
attribute [local go_sem] max2_int min2_int max_two min_two max_three min_three max_four min_four   -- for this text's walks alone
set_option linter.unusedVariables false
set_option linter.unusedSimpArgs false

/-! ### doorkeeperref02_Class: function 39 -/
def doorkeeperref02_Class.f (k : Nat) (a0 : Int) (a1 : Int) : Option (Bool) := (doorkeeperref02_letters.f).bind fun t150 => ((doorkeeperref02_In.f k a0 t150).bind fun t151 => ((doorkeeperref02_In.f k a0 (⟨#[48, 49, 50, 51, 52, 53, 54, 55, 56, 57]⟩ : ByteArray)).bind fun t152 => (if a1 = 0 then (some t151) else (if a1 = 1 then (some t152) else (if a1 = 2 then (if t151 = true then (some true) else (if t152 = true then (some true) else ((doorkeeperref02_In.f k a0 (⟨#[33, 35, 36, 37, 38, 39, 42, 43, 45, 46, 94, 95, 96, 124, 126]⟩ : ByteArray)).bind fun t153 => (some t153)))) else (if a1 = 3 then (if t151 = true then (some true) else (if t152 = true then (some true) else ((doorkeeperref02_In.f k a0 (⟨#[45, 46, 95, 126]⟩ : ByteArray)).bind fun t154 => (some t154)))) else (if a1 = 4 then (if t151 = true then (some true) else (if t152 = true then (some true) else ((doorkeeperref02_In.f k a0 (⟨#[45, 46, 95, 126, 33, 36, 38, 39, 40, 41, 42, 43, 44, 59, 61, 58, 64]⟩ : ByteArray)).bind fun t155 => (some t155)))) else (if a0 = 9 then (some true) else (if a0 ≥ 32 then (some (a0 != 127)) else (some false))))))))))
theorem doorkeeperref02_Class.mono : ∀ a0 a1 k, LeO (doorkeeperref02_Class.f k a0 a1) (doorkeeperref02_Class.f (k + 1) a0 a1) := by
  intro a0 a1 k
  unfold doorkeeperref02_Class.f
  repeat' first
      | (with_reducible exact doorkeeperref02_In.mono _ _ _)
      | (with_reducible exact LeO.refl _)
      | (with_reducible exact LeO.none _)
      | (with_reducible refine LeO.ite ?_ ?_)
      | (with_reducible refine LeO.bind ?_ (fun _ => ?_))
      | exact doorkeeperref02_In.mono _ _ _
      | exact LeO.none _
      | refine LeO.ite ?_ ?_
      | refine LeO.bind ?_ (fun _ => ?_)
set_option maxHeartbeats 8000000 in
set_option maxRecDepth 100000 in
theorem doorkeeperref02_Class.calls (k : Nat) (a0 : Int) (a1 : Int) (r : Bool) (w : World) (h : doorkeeperref02_Class.f k a0 a1 = some r) :
    Calls Tryd.prog 39 #[.int .u8 a0, .int .i64 a1] w fun e w' => e = .returned (.bool r) ∧ Drawn0 w w' := by
  have H : ((doorkeeperref02_letters.f).bind fun t150 => ((doorkeeperref02_In.f k a0 t150).bind fun t151 => ((doorkeeperref02_In.f k a0 (⟨#[48, 49, 50, 51, 52, 53, 54, 55, 56, 57]⟩ : ByteArray)).bind fun t152 => (if a1 = 0 then (some t151) else (if a1 = 1 then (some t152) else (if a1 = 2 then (if t151 = true then (some true) else (if t152 = true then (some true) else ((doorkeeperref02_In.f k a0 (⟨#[33, 35, 36, 37, 38, 39, 42, 43, 45, 46, 94, 95, 96, 124, 126]⟩ : ByteArray)).bind fun t153 => (some t153)))) else (if a1 = 3 then (if t151 = true then (some true) else (if t152 = true then (some true) else ((doorkeeperref02_In.f k a0 (⟨#[45, 46, 95, 126]⟩ : ByteArray)).bind fun t154 => (some t154)))) else (if a1 = 4 then (if t151 = true then (some true) else (if t152 = true then (some true) else ((doorkeeperref02_In.f k a0 (⟨#[45, 46, 95, 126, 33, 36, 38, 39, 40, 41, 42, 43, 44, 59, 61, 58, 64]⟩ : ByteArray)).bind fun t155 => (some t155)))) else (if a0 = 9 then (some true) else (if a0 ≥ 32 then (some (a0 != 127)) else (some false))))))))))) = some r := h
  clear h
  replace H := Option.bind_eq_some_iff.mp H
  obtain ⟨t150, A30, H⟩ := H
  replace H : ((doorkeeperref02_In.f k a0 t150).bind fun t151 => ((doorkeeperref02_In.f k a0 (⟨#[48, 49, 50, 51, 52, 53, 54, 55, 56, 57]⟩ : ByteArray)).bind fun t152 => (if a1 = 0 then (some t151) else (if a1 = 1 then (some t152) else (if a1 = 2 then (if t151 = true then (some true) else (if t152 = true then (some true) else ((doorkeeperref02_In.f k a0 (⟨#[33, 35, 36, 37, 38, 39, 42, 43, 45, 46, 94, 95, 96, 124, 126]⟩ : ByteArray)).bind fun t153 => (some t153)))) else (if a1 = 3 then (if t151 = true then (some true) else (if t152 = true then (some true) else ((doorkeeperref02_In.f k a0 (⟨#[45, 46, 95, 126]⟩ : ByteArray)).bind fun t154 => (some t154)))) else (if a1 = 4 then (if t151 = true then (some true) else (if t152 = true then (some true) else ((doorkeeperref02_In.f k a0 (⟨#[45, 46, 95, 126, 33, 36, 38, 39, 40, 41, 42, 43, 44, 59, 61, 58, 64]⟩ : ByteArray)).bind fun t155 => (some t155)))) else (if a0 = 9 then (some true) else (if a0 ≥ 32 then (some (a0 != 127)) else (some false)))))))))) = some r := H
  have A3 := Aside0.mk A30
  clear A30
  replace H := Option.bind_eq_some_iff.mp H
  obtain ⟨t151, A40, H⟩ := H
  replace H : ((doorkeeperref02_In.f k a0 (⟨#[48, 49, 50, 51, 52, 53, 54, 55, 56, 57]⟩ : ByteArray)).bind fun t152 => (if a1 = 0 then (some t151) else (if a1 = 1 then (some t152) else (if a1 = 2 then (if t151 = true then (some true) else (if t152 = true then (some true) else ((doorkeeperref02_In.f k a0 (⟨#[33, 35, 36, 37, 38, 39, 42, 43, 45, 46, 94, 95, 96, 124, 126]⟩ : ByteArray)).bind fun t153 => (some t153)))) else (if a1 = 3 then (if t151 = true then (some true) else (if t152 = true then (some true) else ((doorkeeperref02_In.f k a0 (⟨#[45, 46, 95, 126]⟩ : ByteArray)).bind fun t154 => (some t154)))) else (if a1 = 4 then (if t151 = true then (some true) else (if t152 = true then (some true) else ((doorkeeperref02_In.f k a0 (⟨#[45, 46, 95, 126, 33, 36, 38, 39, 40, 41, 42, 43, 44, 59, 61, 58, 64]⟩ : ByteArray)).bind fun t155 => (some t155)))) else (if a0 = 9 then (some true) else (if a0 ≥ 32 then (some (a0 != 127)) else (some false))))))))) = some r := H
  have A4 := Aside0.mk A40
  clear A40
  replace H := Option.bind_eq_some_iff.mp H
  obtain ⟨t152, A50, H⟩ := H
  replace H : (if a1 = 0 then (some t151) else (if a1 = 1 then (some t152) else (if a1 = 2 then (if t151 = true then (some true) else (if t152 = true then (some true) else ((doorkeeperref02_In.f k a0 (⟨#[33, 35, 36, 37, 38, 39, 42, 43, 45, 46, 94, 95, 96, 124, 126]⟩ : ByteArray)).bind fun t153 => (some t153)))) else (if a1 = 3 then (if t151 = true then (some true) else (if t152 = true then (some true) else ((doorkeeperref02_In.f k a0 (⟨#[45, 46, 95, 126]⟩ : ByteArray)).bind fun t154 => (some t154)))) else (if a1 = 4 then (if t151 = true then (some true) else (if t152 = true then (some true) else ((doorkeeperref02_In.f k a0 (⟨#[45, 46, 95, 126, 33, 36, 38, 39, 40, 41, 42, 43, 44, 59, 61, 58, 64]⟩ : ByteArray)).bind fun t155 => (some t155)))) else (if a0 = 9 then (some true) else (if a0 ≥ 32 then (some (a0 != 127)) else (some false)))))))) = some r := H
  have A5 := Aside0.mk A50
  clear A50
  by_cases c6 : a1 = 0
  · rw [if_pos c6] at H
    have c6b0 : (a1 == 0) = true := beq_iff_eq.mpr c6
    have c6b1 : (a1 != 0) = false := bne_eq_false_iff_eq.mpr c6
    clear c6
    obtain rfl := Option.some.inj H
    go_enter Tryd.func39, Tryd.ntmps39
    go_wp2_with (first | ((with_reducible refine gate_callee (f := 45) rfl ?_); refine goesL_ (some 8) rfl rfl Tryd.func45 (by kernel_rfl) rfl #[] rfl (by (try simp only [List.map_toArray, List.map_cons, List.map_nil]); first | done | rfl | (simp only [List.length_drop, List.length_take]; rfl)) ?_; (with_reducible refine (doorkeeperref02_letters.calls  t150 _ A3.out).mono ?_); rintro e w' ⟨rfl, ⟨nd, rfl⟩⟩; refine ⟨_, rfl, ?_⟩) | ((with_reducible refine gate_callee (f := 22) rfl ?_); refine goesL_ (some 9) rfl rfl Tryd.func22 (by kernel_rfl) rfl #[.int .u8 a0, .string t150] rfl (by (try simp only [List.map_toArray, List.map_cons, List.map_nil]); first | done | rfl | (simp only [List.length_drop, List.length_take]; rfl)) ?_; (with_reducible refine (doorkeeperref02_In.calls k a0 t150 t151 _ A4.out).mono ?_); rintro e w' ⟨rfl, ⟨nd, rfl⟩⟩; refine ⟨_, rfl, ?_⟩) | ((with_reducible refine gate_callee (f := 22) rfl ?_); refine goesL_ (some 11) rfl rfl Tryd.func22 (by kernel_rfl) rfl #[.int .u8 a0, .string (⟨#[48, 49, 50, 51, 52, 53, 54, 55, 56, 57]⟩ : ByteArray)] rfl (by (try simp only [List.map_toArray, List.map_cons, List.map_nil]); first | done | rfl | (simp only [List.length_drop, List.length_take]; rfl)) ?_; (with_reducible refine (doorkeeperref02_In.calls k a0 (⟨#[48, 49, 50, 51, 52, 53, 54, 55, 56, 57]⟩ : ByteArray) t152 _ A5.out).mono ?_); rintro e w' ⟨rfl, ⟨nd, rfl⟩⟩; refine ⟨_, rfl, ?_⟩))
    go_ret
    exact ⟨by first | rfl | (simp; done) | (simp [*]; done), by repeat (first | exact Drawn0.refl _ | apply Drawn0.step)⟩
  · rw [if_neg c6] at H
    have c6b0 : (a1 == 0) = false := beq_eq_false_iff_ne.mpr c6
    have c6b1 : (a1 != 0) = true := bne_iff_ne.mpr c6
    by_cases c7 : a1 = 1
    · rw [if_pos c7] at H
      have c7b0 : (a1 == 1) = true := beq_iff_eq.mpr c7
      have c7b1 : (a1 != 1) = false := bne_eq_false_iff_eq.mpr c7
      clear c7
      obtain rfl := Option.some.inj H
      go_enter Tryd.func39, Tryd.ntmps39
      go_wp2_with (first | ((with_reducible refine gate_callee (f := 45) rfl ?_); refine goesL_ (some 8) rfl rfl Tryd.func45 (by kernel_rfl) rfl #[] rfl (by (try simp only [List.map_toArray, List.map_cons, List.map_nil]); first | done | rfl | (simp only [List.length_drop, List.length_take]; rfl)) ?_; (with_reducible refine (doorkeeperref02_letters.calls  t150 _ A3.out).mono ?_); rintro e w' ⟨rfl, ⟨nd, rfl⟩⟩; refine ⟨_, rfl, ?_⟩) | ((with_reducible refine gate_callee (f := 22) rfl ?_); refine goesL_ (some 9) rfl rfl Tryd.func22 (by kernel_rfl) rfl #[.int .u8 a0, .string t150] rfl (by (try simp only [List.map_toArray, List.map_cons, List.map_nil]); first | done | rfl | (simp only [List.length_drop, List.length_take]; rfl)) ?_; (with_reducible refine (doorkeeperref02_In.calls k a0 t150 t151 _ A4.out).mono ?_); rintro e w' ⟨rfl, ⟨nd, rfl⟩⟩; refine ⟨_, rfl, ?_⟩) | ((with_reducible refine gate_callee (f := 22) rfl ?_); refine goesL_ (some 11) rfl rfl Tryd.func22 (by kernel_rfl) rfl #[.int .u8 a0, .string (⟨#[48, 49, 50, 51, 52, 53, 54, 55, 56, 57]⟩ : ByteArray)] rfl (by (try simp only [List.map_toArray, List.map_cons, List.map_nil]); first | done | rfl | (simp only [List.length_drop, List.length_take]; rfl)) ?_; (with_reducible refine (doorkeeperref02_In.calls k a0 (⟨#[48, 49, 50, 51, 52, 53, 54, 55, 56, 57]⟩ : ByteArray) t152 _ A5.out).mono ?_); rintro e w' ⟨rfl, ⟨nd, rfl⟩⟩; refine ⟨_, rfl, ?_⟩))
      go_ret
      exact ⟨by first | rfl | (simp; done) | (simp [*]; done), by repeat (first | exact Drawn0.refl _ | apply Drawn0.step)⟩
    · rw [if_neg c7] at H
      have c7b0 : (a1 == 1) = false := beq_eq_false_iff_ne.mpr c7
      have c7b1 : (a1 != 1) = true := bne_iff_ne.mpr c7
      by_cases c8 : a1 = 2
      · rw [if_pos c8] at H
        have c8b0 : (a1 == 2) = true := beq_iff_eq.mpr c8
        have c8b1 : (a1 != 2) = false := bne_eq_false_iff_eq.mpr c8
        clear c8
        by_cases c9 : t151 = true
        · subst c9
          have H1 : (some true) = some r := by rw [if_pos rfl] at H; exact H
          clear H
          have H := H1
          clear H1
          obtain rfl := Option.some.inj H
          go_enter Tryd.func39, Tryd.ntmps39
          go_wp2_with (first | ((with_reducible refine gate_callee (f := 45) rfl ?_); refine goesL_ (some 8) rfl rfl Tryd.func45 (by kernel_rfl) rfl #[] rfl (by (try simp only [List.map_toArray, List.map_cons, List.map_nil]); first | done | rfl | (simp only [List.length_drop, List.length_take]; rfl)) ?_; (with_reducible refine (doorkeeperref02_letters.calls  t150 _ A3.out).mono ?_); rintro e w' ⟨rfl, ⟨nd, rfl⟩⟩; refine ⟨_, rfl, ?_⟩) | ((with_reducible refine gate_callee (f := 22) rfl ?_); refine goesL_ (some 9) rfl rfl Tryd.func22 (by kernel_rfl) rfl #[.int .u8 a0, .string t150] rfl (by (try simp only [List.map_toArray, List.map_cons, List.map_nil]); first | done | rfl | (simp only [List.length_drop, List.length_take]; rfl)) ?_; (with_reducible refine (doorkeeperref02_In.calls k a0 t150 true _ A4.out).mono ?_); rintro e w' ⟨rfl, ⟨nd, rfl⟩⟩; refine ⟨_, rfl, ?_⟩) | ((with_reducible refine gate_callee (f := 22) rfl ?_); refine goesL_ (some 11) rfl rfl Tryd.func22 (by kernel_rfl) rfl #[.int .u8 a0, .string (⟨#[48, 49, 50, 51, 52, 53, 54, 55, 56, 57]⟩ : ByteArray)] rfl (by (try simp only [List.map_toArray, List.map_cons, List.map_nil]); first | done | rfl | (simp only [List.length_drop, List.length_take]; rfl)) ?_; (with_reducible refine (doorkeeperref02_In.calls k a0 (⟨#[48, 49, 50, 51, 52, 53, 54, 55, 56, 57]⟩ : ByteArray) t152 _ A5.out).mono ?_); rintro e w' ⟨rfl, ⟨nd, rfl⟩⟩; refine ⟨_, rfl, ?_⟩))
          go_ret
          exact ⟨by first | rfl | (simp; done) | (simp [*]; done), by repeat (first | exact Drawn0.refl _ | apply Drawn0.step)⟩
        · replace c9 := Bool.eq_false_iff.mpr c9
          subst c9
          have H1 : (if t152 = true then (some true) else ((doorkeeperref02_In.f k a0 (⟨#[33, 35, 36, 37, 38, 39, 42, 43, 45, 46, 94, 95, 96, 124, 126]⟩ : ByteArray)).bind fun t153 => (some t153))) = some r := by rw [if_neg (show ¬ (false = true) by decide)] at H; exact H
          clear H
          have H := H1
          clear H1
          by_cases c10 : t152 = true
          · subst c10
            have H1 : (some true) = some r := by rw [if_pos rfl] at H; exact H
            clear H
            have H := H1
            clear H1
            obtain rfl := Option.some.inj H
            go_enter Tryd.func39, Tryd.ntmps39
            go_wp2_with (first | ((with_reducible refine gate_callee (f := 45) rfl ?_); refine goesL_ (some 8) rfl rfl Tryd.func45 (by kernel_rfl) rfl #[] rfl (by (try simp only [List.map_toArray, List.map_cons, List.map_nil]); first | done | rfl | (simp only [List.length_drop, List.length_take]; rfl)) ?_; (with_reducible refine (doorkeeperref02_letters.calls  t150 _ A3.out).mono ?_); rintro e w' ⟨rfl, ⟨nd, rfl⟩⟩; refine ⟨_, rfl, ?_⟩) | ((with_reducible refine gate_callee (f := 22) rfl ?_); refine goesL_ (some 9) rfl rfl Tryd.func22 (by kernel_rfl) rfl #[.int .u8 a0, .string t150] rfl (by (try simp only [List.map_toArray, List.map_cons, List.map_nil]); first | done | rfl | (simp only [List.length_drop, List.length_take]; rfl)) ?_; (with_reducible refine (doorkeeperref02_In.calls k a0 t150 false _ A4.out).mono ?_); rintro e w' ⟨rfl, ⟨nd, rfl⟩⟩; refine ⟨_, rfl, ?_⟩) | ((with_reducible refine gate_callee (f := 22) rfl ?_); refine goesL_ (some 11) rfl rfl Tryd.func22 (by kernel_rfl) rfl #[.int .u8 a0, .string (⟨#[48, 49, 50, 51, 52, 53, 54, 55, 56, 57]⟩ : ByteArray)] rfl (by (try simp only [List.map_toArray, List.map_cons, List.map_nil]); first | done | rfl | (simp only [List.length_drop, List.length_take]; rfl)) ?_; (with_reducible refine (doorkeeperref02_In.calls k a0 (⟨#[48, 49, 50, 51, 52, 53, 54, 55, 56, 57]⟩ : ByteArray) true _ A5.out).mono ?_); rintro e w' ⟨rfl, ⟨nd, rfl⟩⟩; refine ⟨_, rfl, ?_⟩))
            go_ret
            exact ⟨by first | rfl | (simp; done) | (simp [*]; done), by repeat (first | exact Drawn0.refl _ | apply Drawn0.step)⟩
          · replace c10 := Bool.eq_false_iff.mpr c10
            subst c10
            have H1 : ((doorkeeperref02_In.f k a0 (⟨#[33, 35, 36, 37, 38, 39, 42, 43, 45, 46, 94, 95, 96, 124, 126]⟩ : ByteArray)).bind fun t153 => (some t153)) = some r := by rw [if_neg (show ¬ (false = true) by decide)] at H; exact H
            clear H
            have H := H1
            clear H1
            replace H := Option.bind_eq_some_iff.mp H
            obtain ⟨t153, A110, H⟩ := H
            replace H : (some t153) = some r := H
            have A11 := Aside0.mk A110
            clear A110
            obtain rfl := Option.some.inj H
            go_enter Tryd.func39, Tryd.ntmps39
            go_wp2_with (first | ((with_reducible refine gate_callee (f := 45) rfl ?_); refine goesL_ (some 8) rfl rfl Tryd.func45 (by kernel_rfl) rfl #[] rfl (by (try simp only [List.map_toArray, List.map_cons, List.map_nil]); first | done | rfl | (simp only [List.length_drop, List.length_take]; rfl)) ?_; (with_reducible refine (doorkeeperref02_letters.calls  t150 _ A3.out).mono ?_); rintro e w' ⟨rfl, ⟨nd, rfl⟩⟩; refine ⟨_, rfl, ?_⟩) | ((with_reducible refine gate_callee (f := 22) rfl ?_); refine goesL_ (some 9) rfl rfl Tryd.func22 (by kernel_rfl) rfl #[.int .u8 a0, .string t150] rfl (by (try simp only [List.map_toArray, List.map_cons, List.map_nil]); first | done | rfl | (simp only [List.length_drop, List.length_take]; rfl)) ?_; (with_reducible refine (doorkeeperref02_In.calls k a0 t150 false _ A4.out).mono ?_); rintro e w' ⟨rfl, ⟨nd, rfl⟩⟩; refine ⟨_, rfl, ?_⟩) | ((with_reducible refine gate_callee (f := 22) rfl ?_); refine goesL_ (some 11) rfl rfl Tryd.func22 (by kernel_rfl) rfl #[.int .u8 a0, .string (⟨#[48, 49, 50, 51, 52, 53, 54, 55, 56, 57]⟩ : ByteArray)] rfl (by (try simp only [List.map_toArray, List.map_cons, List.map_nil]); first | done | rfl | (simp only [List.length_drop, List.length_take]; rfl)) ?_; (with_reducible refine (doorkeeperref02_In.calls k a0 (⟨#[48, 49, 50, 51, 52, 53, 54, 55, 56, 57]⟩ : ByteArray) false _ A5.out).mono ?_); rintro e w' ⟨rfl, ⟨nd, rfl⟩⟩; refine ⟨_, rfl, ?_⟩) | (go_at_call 22; (with_reducible refine (doorkeeperref02_In.calls k a0 (⟨#[33, 35, 36, 37, 38, 39, 42, 43, 45, 46, 94, 95, 96, 124, 126]⟩ : ByteArray) t153 _ A11.out).mono ?_); rintro e w' ⟨rfl, ⟨nd, rfl⟩⟩))
            go_ret
            exact ⟨by first | rfl | (simp; done) | (simp [*]; done), by repeat (first | exact Drawn0.refl _ | apply Drawn0.step)⟩
      · rw [if_neg c8] at H
        have c8b0 : (a1 == 2) = false := beq_eq_false_iff_ne.mpr c8
        have c8b1 : (a1 != 2) = true := bne_iff_ne.mpr c8
        by_cases c12 : a1 = 3
        · rw [if_pos c12] at H
          have c12b0 : (a1 == 3) = true := beq_iff_eq.mpr c12
          have c12b1 : (a1 != 3) = false := bne_eq_false_iff_eq.mpr c12
          clear c12
          by_cases c13 : t151 = true
          · subst c13
            have H1 : (some true) = some r := by rw [if_pos rfl] at H; exact H
            clear H
            have H := H1
            clear H1
            obtain rfl := Option.some.inj H
            go_enter Tryd.func39, Tryd.ntmps39
            go_wp2_with (first | ((with_reducible refine gate_callee (f := 45) rfl ?_); refine goesL_ (some 8) rfl rfl Tryd.func45 (by kernel_rfl) rfl #[] rfl (by (try simp only [List.map_toArray, List.map_cons, List.map_nil]); first | done | rfl | (simp only [List.length_drop, List.length_take]; rfl)) ?_; (with_reducible refine (doorkeeperref02_letters.calls  t150 _ A3.out).mono ?_); rintro e w' ⟨rfl, ⟨nd, rfl⟩⟩; refine ⟨_, rfl, ?_⟩) | ((with_reducible refine gate_callee (f := 22) rfl ?_); refine goesL_ (some 9) rfl rfl Tryd.func22 (by kernel_rfl) rfl #[.int .u8 a0, .string t150] rfl (by (try simp only [List.map_toArray, List.map_cons, List.map_nil]); first | done | rfl | (simp only [List.length_drop, List.length_take]; rfl)) ?_; (with_reducible refine (doorkeeperref02_In.calls k a0 t150 true _ A4.out).mono ?_); rintro e w' ⟨rfl, ⟨nd, rfl⟩⟩; refine ⟨_, rfl, ?_⟩) | ((with_reducible refine gate_callee (f := 22) rfl ?_); refine goesL_ (some 11) rfl rfl Tryd.func22 (by kernel_rfl) rfl #[.int .u8 a0, .string (⟨#[48, 49, 50, 51, 52, 53, 54, 55, 56, 57]⟩ : ByteArray)] rfl (by (try simp only [List.map_toArray, List.map_cons, List.map_nil]); first | done | rfl | (simp only [List.length_drop, List.length_take]; rfl)) ?_; (with_reducible refine (doorkeeperref02_In.calls k a0 (⟨#[48, 49, 50, 51, 52, 53, 54, 55, 56, 57]⟩ : ByteArray) t152 _ A5.out).mono ?_); rintro e w' ⟨rfl, ⟨nd, rfl⟩⟩; refine ⟨_, rfl, ?_⟩))
            go_ret
            exact ⟨by first | rfl | (simp; done) | (simp [*]; done), by repeat (first | exact Drawn0.refl _ | apply Drawn0.step)⟩
          · replace c13 := Bool.eq_false_iff.mpr c13
            subst c13
            have H1 : (if t152 = true then (some true) else ((doorkeeperref02_In.f k a0 (⟨#[45, 46, 95, 126]⟩ : ByteArray)).bind fun t154 => (some t154))) = some r := by rw [if_neg (show ¬ (false = true) by decide)] at H; exact H
            clear H
            have H := H1
            clear H1
            by_cases c14 : t152 = true
            · subst c14
              have H1 : (some true) = some r := by rw [if_pos rfl] at H; exact H
              clear H
              have H := H1
              clear H1
              obtain rfl := Option.some.inj H
              go_enter Tryd.func39, Tryd.ntmps39
              go_wp2_with (first | ((with_reducible refine gate_callee (f := 45) rfl ?_); refine goesL_ (some 8) rfl rfl Tryd.func45 (by kernel_rfl) rfl #[] rfl (by (try simp only [List.map_toArray, List.map_cons, List.map_nil]); first | done | rfl | (simp only [List.length_drop, List.length_take]; rfl)) ?_; (with_reducible refine (doorkeeperref02_letters.calls  t150 _ A3.out).mono ?_); rintro e w' ⟨rfl, ⟨nd, rfl⟩⟩; refine ⟨_, rfl, ?_⟩) | ((with_reducible refine gate_callee (f := 22) rfl ?_); refine goesL_ (some 9) rfl rfl Tryd.func22 (by kernel_rfl) rfl #[.int .u8 a0, .string t150] rfl (by (try simp only [List.map_toArray, List.map_cons, List.map_nil]); first | done | rfl | (simp only [List.length_drop, List.length_take]; rfl)) ?_; (with_reducible refine (doorkeeperref02_In.calls k a0 t150 false _ A4.out).mono ?_); rintro e w' ⟨rfl, ⟨nd, rfl⟩⟩; refine ⟨_, rfl, ?_⟩) | ((with_reducible refine gate_callee (f := 22) rfl ?_); refine goesL_ (some 11) rfl rfl Tryd.func22 (by kernel_rfl) rfl #[.int .u8 a0, .string (⟨#[48, 49, 50, 51, 52, 53, 54, 55, 56, 57]⟩ : ByteArray)] rfl (by (try simp only [List.map_toArray, List.map_cons, List.map_nil]); first | done | rfl | (simp only [List.length_drop, List.length_take]; rfl)) ?_; (with_reducible refine (doorkeeperref02_In.calls k a0 (⟨#[48, 49, 50, 51, 52, 53, 54, 55, 56, 57]⟩ : ByteArray) true _ A5.out).mono ?_); rintro e w' ⟨rfl, ⟨nd, rfl⟩⟩; refine ⟨_, rfl, ?_⟩))
              go_ret
              exact ⟨by first | rfl | (simp; done) | (simp [*]; done), by repeat (first | exact Drawn0.refl _ | apply Drawn0.step)⟩
            · replace c14 := Bool.eq_false_iff.mpr c14
              subst c14
              have H1 : ((doorkeeperref02_In.f k a0 (⟨#[45, 46, 95, 126]⟩ : ByteArray)).bind fun t154 => (some t154)) = some r := by rw [if_neg (show ¬ (false = true) by decide)] at H; exact H
              clear H
              have H := H1
              clear H1
              replace H := Option.bind_eq_some_iff.mp H
              obtain ⟨t154, A150, H⟩ := H
              replace H : (some t154) = some r := H
              have A15 := Aside0.mk A150
              clear A150
              obtain rfl := Option.some.inj H
              go_enter Tryd.func39, Tryd.ntmps39
              go_wp2_with (first | ((with_reducible refine gate_callee (f := 45) rfl ?_); refine goesL_ (some 8) rfl rfl Tryd.func45 (by kernel_rfl) rfl #[] rfl (by (try simp only [List.map_toArray, List.map_cons, List.map_nil]); first | done | rfl | (simp only [List.length_drop, List.length_take]; rfl)) ?_; (with_reducible refine (doorkeeperref02_letters.calls  t150 _ A3.out).mono ?_); rintro e w' ⟨rfl, ⟨nd, rfl⟩⟩; refine ⟨_, rfl, ?_⟩) | ((with_reducible refine gate_callee (f := 22) rfl ?_); refine goesL_ (some 9) rfl rfl Tryd.func22 (by kernel_rfl) rfl #[.int .u8 a0, .string t150] rfl (by (try simp only [List.map_toArray, List.map_cons, List.map_nil]); first | done | rfl | (simp only [List.length_drop, List.length_take]; rfl)) ?_; (with_reducible refine (doorkeeperref02_In.calls k a0 t150 false _ A4.out).mono ?_); rintro e w' ⟨rfl, ⟨nd, rfl⟩⟩; refine ⟨_, rfl, ?_⟩) | ((with_reducible refine gate_callee (f := 22) rfl ?_); refine goesL_ (some 11) rfl rfl Tryd.func22 (by kernel_rfl) rfl #[.int .u8 a0, .string (⟨#[48, 49, 50, 51, 52, 53, 54, 55, 56, 57]⟩ : ByteArray)] rfl (by (try simp only [List.map_toArray, List.map_cons, List.map_nil]); first | done | rfl | (simp only [List.length_drop, List.length_take]; rfl)) ?_; (with_reducible refine (doorkeeperref02_In.calls k a0 (⟨#[48, 49, 50, 51, 52, 53, 54, 55, 56, 57]⟩ : ByteArray) false _ A5.out).mono ?_); rintro e w' ⟨rfl, ⟨nd, rfl⟩⟩; refine ⟨_, rfl, ?_⟩) | (go_at_call 22; (with_reducible refine (doorkeeperref02_In.calls k a0 (⟨#[45, 46, 95, 126]⟩ : ByteArray) t154 _ A15.out).mono ?_); rintro e w' ⟨rfl, ⟨nd, rfl⟩⟩))
              go_ret
              exact ⟨by first | rfl | (simp; done) | (simp [*]; done), by repeat (first | exact Drawn0.refl _ | apply Drawn0.step)⟩
        · rw [if_neg c12] at H
          have c12b0 : (a1 == 3) = false := beq_eq_false_iff_ne.mpr c12
          have c12b1 : (a1 != 3) = true := bne_iff_ne.mpr c12
          by_cases c16 : a1 = 4
          · rw [if_pos c16] at H
            have c16b0 : (a1 == 4) = true := beq_iff_eq.mpr c16
            have c16b1 : (a1 != 4) = false := bne_eq_false_iff_eq.mpr c16
            clear c16
            by_cases c17 : t151 = true
            · subst c17
              have H1 : (some true) = some r := by rw [if_pos rfl] at H; exact H
              clear H
              have H := H1
              clear H1
              obtain rfl := Option.some.inj H
              go_enter Tryd.func39, Tryd.ntmps39
              go_wp2_with (first | ((with_reducible refine gate_callee (f := 45) rfl ?_); refine goesL_ (some 8) rfl rfl Tryd.func45 (by kernel_rfl) rfl #[] rfl (by (try simp only [List.map_toArray, List.map_cons, List.map_nil]); first | done | rfl | (simp only [List.length_drop, List.length_take]; rfl)) ?_; (with_reducible refine (doorkeeperref02_letters.calls  t150 _ A3.out).mono ?_); rintro e w' ⟨rfl, ⟨nd, rfl⟩⟩; refine ⟨_, rfl, ?_⟩) | ((with_reducible refine gate_callee (f := 22) rfl ?_); refine goesL_ (some 9) rfl rfl Tryd.func22 (by kernel_rfl) rfl #[.int .u8 a0, .string t150] rfl (by (try simp only [List.map_toArray, List.map_cons, List.map_nil]); first | done | rfl | (simp only [List.length_drop, List.length_take]; rfl)) ?_; (with_reducible refine (doorkeeperref02_In.calls k a0 t150 true _ A4.out).mono ?_); rintro e w' ⟨rfl, ⟨nd, rfl⟩⟩; refine ⟨_, rfl, ?_⟩) | ((with_reducible refine gate_callee (f := 22) rfl ?_); refine goesL_ (some 11) rfl rfl Tryd.func22 (by kernel_rfl) rfl #[.int .u8 a0, .string (⟨#[48, 49, 50, 51, 52, 53, 54, 55, 56, 57]⟩ : ByteArray)] rfl (by (try simp only [List.map_toArray, List.map_cons, List.map_nil]); first | done | rfl | (simp only [List.length_drop, List.length_take]; rfl)) ?_; (with_reducible refine (doorkeeperref02_In.calls k a0 (⟨#[48, 49, 50, 51, 52, 53, 54, 55, 56, 57]⟩ : ByteArray) t152 _ A5.out).mono ?_); rintro e w' ⟨rfl, ⟨nd, rfl⟩⟩; refine ⟨_, rfl, ?_⟩))
              go_ret
              exact ⟨by first | rfl | (simp; done) | (simp [*]; done), by repeat (first | exact Drawn0.refl _ | apply Drawn0.step)⟩
            · replace c17 := Bool.eq_false_iff.mpr c17
              subst c17
              have H1 : (if t152 = true then (some true) else ((doorkeeperref02_In.f k a0 (⟨#[45, 46, 95, 126, 33, 36, 38, 39, 40, 41, 42, 43, 44, 59, 61, 58, 64]⟩ : ByteArray)).bind fun t155 => (some t155))) = some r := by rw [if_neg (show ¬ (false = true) by decide)] at H; exact H
              clear H
              have H := H1
              clear H1
              by_cases c18 : t152 = true
              · subst c18
                have H1 : (some true) = some r := by rw [if_pos rfl] at H; exact H
                clear H
                have H := H1
                clear H1
                obtain rfl := Option.some.inj H
                go_enter Tryd.func39, Tryd.ntmps39
                go_wp2_with (first | ((with_reducible refine gate_callee (f := 45) rfl ?_); refine goesL_ (some 8) rfl rfl Tryd.func45 (by kernel_rfl) rfl #[] rfl (by (try simp only [List.map_toArray, List.map_cons, List.map_nil]); first | done | rfl | (simp only [List.length_drop, List.length_take]; rfl)) ?_; (with_reducible refine (doorkeeperref02_letters.calls  t150 _ A3.out).mono ?_); rintro e w' ⟨rfl, ⟨nd, rfl⟩⟩; refine ⟨_, rfl, ?_⟩) | ((with_reducible refine gate_callee (f := 22) rfl ?_); refine goesL_ (some 9) rfl rfl Tryd.func22 (by kernel_rfl) rfl #[.int .u8 a0, .string t150] rfl (by (try simp only [List.map_toArray, List.map_cons, List.map_nil]); first | done | rfl | (simp only [List.length_drop, List.length_take]; rfl)) ?_; (with_reducible refine (doorkeeperref02_In.calls k a0 t150 false _ A4.out).mono ?_); rintro e w' ⟨rfl, ⟨nd, rfl⟩⟩; refine ⟨_, rfl, ?_⟩) | ((with_reducible refine gate_callee (f := 22) rfl ?_); refine goesL_ (some 11) rfl rfl Tryd.func22 (by kernel_rfl) rfl #[.int .u8 a0, .string (⟨#[48, 49, 50, 51, 52, 53, 54, 55, 56, 57]⟩ : ByteArray)] rfl (by (try simp only [List.map_toArray, List.map_cons, List.map_nil]); first | done | rfl | (simp only [List.length_drop, List.length_take]; rfl)) ?_; (with_reducible refine (doorkeeperref02_In.calls k a0 (⟨#[48, 49, 50, 51, 52, 53, 54, 55, 56, 57]⟩ : ByteArray) true _ A5.out).mono ?_); rintro e w' ⟨rfl, ⟨nd, rfl⟩⟩; refine ⟨_, rfl, ?_⟩))
                go_ret
                exact ⟨by first | rfl | (simp; done) | (simp [*]; done), by repeat (first | exact Drawn0.refl _ | apply Drawn0.step)⟩
              · replace c18 := Bool.eq_false_iff.mpr c18
                subst c18
                have H1 : ((doorkeeperref02_In.f k a0 (⟨#[45, 46, 95, 126, 33, 36, 38, 39, 40, 41, 42, 43, 44, 59, 61, 58, 64]⟩ : ByteArray)).bind fun t155 => (some t155)) = some r := by rw [if_neg (show ¬ (false = true) by decide)] at H; exact H
                clear H
                have H := H1
                clear H1
                replace H := Option.bind_eq_some_iff.mp H
                obtain ⟨t155, A190, H⟩ := H
                replace H : (some t155) = some r := H
                have A19 := Aside0.mk A190
                clear A190
                obtain rfl := Option.some.inj H
                go_enter Tryd.func39, Tryd.ntmps39
                go_wp2_with (first | ((with_reducible refine gate_callee (f := 45) rfl ?_); refine goesL_ (some 8) rfl rfl Tryd.func45 (by kernel_rfl) rfl #[] rfl (by (try simp only [List.map_toArray, List.map_cons, List.map_nil]); first | done | rfl | (simp only [List.length_drop, List.length_take]; rfl)) ?_; (with_reducible refine (doorkeeperref02_letters.calls  t150 _ A3.out).mono ?_); rintro e w' ⟨rfl, ⟨nd, rfl⟩⟩; refine ⟨_, rfl, ?_⟩) | ((with_reducible refine gate_callee (f := 22) rfl ?_); refine goesL_ (some 9) rfl rfl Tryd.func22 (by kernel_rfl) rfl #[.int .u8 a0, .string t150] rfl (by (try simp only [List.map_toArray, List.map_cons, List.map_nil]); first | done | rfl | (simp only [List.length_drop, List.length_take]; rfl)) ?_; (with_reducible refine (doorkeeperref02_In.calls k a0 t150 false _ A4.out).mono ?_); rintro e w' ⟨rfl, ⟨nd, rfl⟩⟩; refine ⟨_, rfl, ?_⟩) | ((with_reducible refine gate_callee (f := 22) rfl ?_); refine goesL_ (some 11) rfl rfl Tryd.func22 (by kernel_rfl) rfl #[.int .u8 a0, .string (⟨#[48, 49, 50, 51, 52, 53, 54, 55, 56, 57]⟩ : ByteArray)] rfl (by (try simp only [List.map_toArray, List.map_cons, List.map_nil]); first | done | rfl | (simp only [List.length_drop, List.length_take]; rfl)) ?_; (with_reducible refine (doorkeeperref02_In.calls k a0 (⟨#[48, 49, 50, 51, 52, 53, 54, 55, 56, 57]⟩ : ByteArray) false _ A5.out).mono ?_); rintro e w' ⟨rfl, ⟨nd, rfl⟩⟩; refine ⟨_, rfl, ?_⟩) | (go_at_call 22; (with_reducible refine (doorkeeperref02_In.calls k a0 (⟨#[45, 46, 95, 126, 33, 36, 38, 39, 40, 41, 42, 43, 44, 59, 61, 58, 64]⟩ : ByteArray) t155 _ A19.out).mono ?_); rintro e w' ⟨rfl, ⟨nd, rfl⟩⟩))
                go_ret
                exact ⟨by first | rfl | (simp; done) | (simp [*]; done), by repeat (first | exact Drawn0.refl _ | apply Drawn0.step)⟩
          · rw [if_neg c16] at H
            have c16b0 : (a1 == 4) = false := beq_eq_false_iff_ne.mpr c16
            have c16b1 : (a1 != 4) = true := bne_iff_ne.mpr c16
            by_cases c20 : a0 = 9
            · rw [if_pos c20] at H
              have c20b0 : (a0 == 9) = true := beq_iff_eq.mpr c20
              have c20b1 : (a0 != 9) = false := bne_eq_false_iff_eq.mpr c20
              clear c20
              obtain rfl := Option.some.inj H
              go_enter Tryd.func39, Tryd.ntmps39
              go_wp2_with (first | ((with_reducible refine gate_callee (f := 45) rfl ?_); refine goesL_ (some 8) rfl rfl Tryd.func45 (by kernel_rfl) rfl #[] rfl (by (try simp only [List.map_toArray, List.map_cons, List.map_nil]); first | done | rfl | (simp only [List.length_drop, List.length_take]; rfl)) ?_; (with_reducible refine (doorkeeperref02_letters.calls  t150 _ A3.out).mono ?_); rintro e w' ⟨rfl, ⟨nd, rfl⟩⟩; refine ⟨_, rfl, ?_⟩) | ((with_reducible refine gate_callee (f := 22) rfl ?_); refine goesL_ (some 9) rfl rfl Tryd.func22 (by kernel_rfl) rfl #[.int .u8 a0, .string t150] rfl (by (try simp only [List.map_toArray, List.map_cons, List.map_nil]); first | done | rfl | (simp only [List.length_drop, List.length_take]; rfl)) ?_; (with_reducible refine (doorkeeperref02_In.calls k a0 t150 t151 _ A4.out).mono ?_); rintro e w' ⟨rfl, ⟨nd, rfl⟩⟩; refine ⟨_, rfl, ?_⟩) | ((with_reducible refine gate_callee (f := 22) rfl ?_); refine goesL_ (some 11) rfl rfl Tryd.func22 (by kernel_rfl) rfl #[.int .u8 a0, .string (⟨#[48, 49, 50, 51, 52, 53, 54, 55, 56, 57]⟩ : ByteArray)] rfl (by (try simp only [List.map_toArray, List.map_cons, List.map_nil]); first | done | rfl | (simp only [List.length_drop, List.length_take]; rfl)) ?_; (with_reducible refine (doorkeeperref02_In.calls k a0 (⟨#[48, 49, 50, 51, 52, 53, 54, 55, 56, 57]⟩ : ByteArray) t152 _ A5.out).mono ?_); rintro e w' ⟨rfl, ⟨nd, rfl⟩⟩; refine ⟨_, rfl, ?_⟩))
              go_ret
              exact ⟨by first | rfl | (simp; done) | (simp [*]; done), by repeat (first | exact Drawn0.refl _ | apply Drawn0.step)⟩
            · rw [if_neg c20] at H
              have c20b0 : (a0 == 9) = false := beq_eq_false_iff_ne.mpr c20
              have c20b1 : (a0 != 9) = true := bne_iff_ne.mpr c20
              by_cases c21 : a0 ≥ 32
              · rw [if_pos c21] at H
                have c21b0 : decide (32 ≤ a0) = true := decide_eq_true c21
                clear c21
                obtain rfl := Option.some.inj H
                go_enter Tryd.func39, Tryd.ntmps39
                go_wp2_with (first | ((with_reducible refine gate_callee (f := 45) rfl ?_); refine goesL_ (some 8) rfl rfl Tryd.func45 (by kernel_rfl) rfl #[] rfl (by (try simp only [List.map_toArray, List.map_cons, List.map_nil]); first | done | rfl | (simp only [List.length_drop, List.length_take]; rfl)) ?_; (with_reducible refine (doorkeeperref02_letters.calls  t150 _ A3.out).mono ?_); rintro e w' ⟨rfl, ⟨nd, rfl⟩⟩; refine ⟨_, rfl, ?_⟩) | ((with_reducible refine gate_callee (f := 22) rfl ?_); refine goesL_ (some 9) rfl rfl Tryd.func22 (by kernel_rfl) rfl #[.int .u8 a0, .string t150] rfl (by (try simp only [List.map_toArray, List.map_cons, List.map_nil]); first | done | rfl | (simp only [List.length_drop, List.length_take]; rfl)) ?_; (with_reducible refine (doorkeeperref02_In.calls k a0 t150 t151 _ A4.out).mono ?_); rintro e w' ⟨rfl, ⟨nd, rfl⟩⟩; refine ⟨_, rfl, ?_⟩) | ((with_reducible refine gate_callee (f := 22) rfl ?_); refine goesL_ (some 11) rfl rfl Tryd.func22 (by kernel_rfl) rfl #[.int .u8 a0, .string (⟨#[48, 49, 50, 51, 52, 53, 54, 55, 56, 57]⟩ : ByteArray)] rfl (by (try simp only [List.map_toArray, List.map_cons, List.map_nil]); first | done | rfl | (simp only [List.length_drop, List.length_take]; rfl)) ?_; (with_reducible refine (doorkeeperref02_In.calls k a0 (⟨#[48, 49, 50, 51, 52, 53, 54, 55, 56, 57]⟩ : ByteArray) t152 _ A5.out).mono ?_); rintro e w' ⟨rfl, ⟨nd, rfl⟩⟩; refine ⟨_, rfl, ?_⟩))
                go_ret
                exact ⟨by first | rfl | (simp; done) | (simp [*]; done), by repeat (first | exact Drawn0.refl _ | apply Drawn0.step)⟩
              · rw [if_neg c21] at H
                have c21b0 : decide (32 ≤ a0) = false := decide_eq_false c21
                clear c21
                obtain rfl := Option.some.inj H
                go_enter Tryd.func39, Tryd.ntmps39
                go_wp2_with (first | ((with_reducible refine gate_callee (f := 45) rfl ?_); refine goesL_ (some 8) rfl rfl Tryd.func45 (by kernel_rfl) rfl #[] rfl (by (try simp only [List.map_toArray, List.map_cons, List.map_nil]); first | done | rfl | (simp only [List.length_drop, List.length_take]; rfl)) ?_; (with_reducible refine (doorkeeperref02_letters.calls  t150 _ A3.out).mono ?_); rintro e w' ⟨rfl, ⟨nd, rfl⟩⟩; refine ⟨_, rfl, ?_⟩) | ((with_reducible refine gate_callee (f := 22) rfl ?_); refine goesL_ (some 9) rfl rfl Tryd.func22 (by kernel_rfl) rfl #[.int .u8 a0, .string t150] rfl (by (try simp only [List.map_toArray, List.map_cons, List.map_nil]); first | done | rfl | (simp only [List.length_drop, List.length_take]; rfl)) ?_; (with_reducible refine (doorkeeperref02_In.calls k a0 t150 t151 _ A4.out).mono ?_); rintro e w' ⟨rfl, ⟨nd, rfl⟩⟩; refine ⟨_, rfl, ?_⟩) | ((with_reducible refine gate_callee (f := 22) rfl ?_); refine goesL_ (some 11) rfl rfl Tryd.func22 (by kernel_rfl) rfl #[.int .u8 a0, .string (⟨#[48, 49, 50, 51, 52, 53, 54, 55, 56, 57]⟩ : ByteArray)] rfl (by (try simp only [List.map_toArray, List.map_cons, List.map_nil]); first | done | rfl | (simp only [List.length_drop, List.length_take]; rfl)) ?_; (with_reducible refine (doorkeeperref02_In.calls k a0 (⟨#[48, 49, 50, 51, 52, 53, 54, 55, 56, 57]⟩ : ByteArray) t152 _ A5.out).mono ?_); rintro e w' ⟨rfl, ⟨nd, rfl⟩⟩; refine ⟨_, rfl, ?_⟩))
                go_ret
                exact ⟨by first | rfl | (simp; done) | (simp [*]; done), by repeat (first | exact Drawn0.refl _ | apply Drawn0.step)⟩

end Go.Proofs.YthilbpgkhjchcaaDoor.P
end

section
namespace Go.Proofs.YthilbpgkhjchcaaDoor.P
open Go.RowKit Go.Proofs.YthilbpgkhjchcaaDoorW.PrintWords Go.Proofs.YthilbpgkhjchcaaDoorW.PrintLast Go.Proofs.YthilbpgkhjchcaaDoorW.PrintMore
attribute [local go_sem] max2_int min2_int max_two min_two max_three min_three max_four min_four   -- for this text's walks alone
set_option linter.unusedVariables false
set_option linter.unusedSimpArgs false

/-! ### doorkeeperref02_All: function 28 -/
def doorkeeperref02_All.l0 : Nat → ByteArray → Int → Int → Option (Bool)
  | 0, _, _, _ => none
  | k + 1, x0, x1, x5 => if x5 < (x0.size : Int) then (if 0 ≤ x5 then ((doorkeeperref02_Class.f k (bt x0 x5) x1).bind fun t156 => (if t156 = true then (doorkeeperref02_All.l0 k x0 x1 (wrap64 (x5 + 1))) else (some false))) else (none)) else (some true)
def doorkeeperref02_All.f (k : Nat) (a0 : ByteArray) (a1 : Int) : Option (Bool) := doorkeeperref02_All.l0 k a0 a1 0
theorem doorkeeperref02_All.mono_l : ∀ k, (∀ y0 y1 y2, LeO (doorkeeperref02_All.l0 k y0 y1 y2) (doorkeeperref02_All.l0 (k + 1) y0 y1 y2))
  | 0 => fun _ _ _ r h => by simp [doorkeeperref02_All.l0] at h
  | k + 1 => by
    have ih0 := doorkeeperref02_All.mono_l k
    · intro y0 y1 y2
      unfold doorkeeperref02_All.l0
      repeat' first
      | (with_reducible exact ih0 _ _ _)
      | (with_reducible exact doorkeeperref02_Class.mono _ _ _)
      | (with_reducible exact LeO.refl _)
      | (with_reducible exact LeO.none _)
      | (with_reducible refine LeO.ite ?_ ?_)
      | (with_reducible refine LeO.bind ?_ (fun _ => ?_))
      | exact ih0 _ _ _
      | exact doorkeeperref02_Class.mono _ _ _
      | exact LeO.none _
      | refine LeO.ite ?_ ?_
      | refine LeO.bind ?_ (fun _ => ?_)
theorem doorkeeperref02_All.mono : ∀ a0 a1 k, LeO (doorkeeperref02_All.f k a0 a1) (doorkeeperref02_All.f (k + 1) a0 a1) := by
  intro a0 a1 k
  have ih0 := doorkeeperref02_All.mono_l k
  unfold doorkeeperref02_All.f
  repeat' first
      | (with_reducible exact ih0 _ _ _)
      | (with_reducible exact doorkeeperref02_Class.mono _ _ _)
      | (with_reducible exact LeO.refl _)
      | (with_reducible exact LeO.none _)
      | (with_reducible refine LeO.ite ?_ ?_)
      | (with_reducible refine LeO.bind ?_ (fun _ => ?_))
      | exact ih0 _ _ _
      | exact doorkeeperref02_Class.mono _ _ _
      | exact LeO.none _
      | refine LeO.ite ?_ ?_
      | refine LeO.bind ?_ (fun _ => ?_)
set_option maxHeartbeats 8000000 in
set_option maxRecDepth 100000 in
theorem doorkeeperref02_All.calls (k : Nat) (a0 : ByteArray) (a1 : Int) (r : Bool) (w : World) (h : doorkeeperref02_All.f k a0 a1 = some r) :
    Calls Tryd.prog 28 #[.string a0, .int .i64 a1] w fun e w' => e = .returned (.bool r) ∧ Drawn0 w w' := by
  have H : (doorkeeperref02_All.l0 k a0 a1 0) = some r := h
  clear h
  have H' := Aside0.mk H
  clear H
  go_enter Tryd.func28, Tryd.ntmps28
  go_wp2
  go_loopg [5] k (fun kq v5 w' => ∃ (x5_1 : Int), v5 = .int .i64 x5_1 ∧ Aside0 (doorkeeperref02_All.l0 kq a0 a1 x5_1 = some r) ∧ Aside0 (kq ≤ k) ∧ Drawn0 w w')
  case atStart => exact ⟨(0), (by first | rfl | (simp; done) | (simp [*]; done)), H', ⟨Nat.le_refl _⟩, by repeat (first | exact Drawn0.refl _ | apply Drawn0.step)⟩
  case round =>
    clear H'
    try clear c2
    try clear p2
    obtain ⟨x5_1, rfl, HA, HK1, ⟨m1, rfl⟩⟩ := hrel
    cases gk with
    | zero => exact absurd HA.out (by simp [doorkeeperref02_All.l0])
    | succ k1 =>
      have H := HA.out
      clear HA
      simp only [doorkeeperref02_All.l0] at H
      by_cases c3 : x5_1 < (a0.size : Int)
      · rw [if_pos c3] at H
        have c3b0 : decide (x5_1 < (a0.size : Int)) = true := decide_eq_true c3
        clear c3
        by_cases c4 : 0 ≤ x5_1
        · rw [if_pos c4] at H
          have c4b0 : decide (0 ≤ x5_1) = true := decide_eq_true c4
          clear c4
          replace H := Option.bind_eq_some_iff.mp H
          obtain ⟨t156, A60, H⟩ := H
          replace H : (if t156 = true then (doorkeeperref02_All.l0 k1 a0 a1 (wrap64 (x5_1 + 1))) else (some false)) = some r := H
          have A6 := Aside0.mk A60
          clear A60
          by_cases c7 : t156 = true
          · subst c7
            have H1 : (doorkeeperref02_All.l0 k1 a0 a1 (wrap64 (x5_1 + 1))) = some r := by rw [if_pos rfl] at H; exact H
            clear H
            have H := H1
            clear H1
            have H' := Aside0.mk H
            clear H
            have p5 : 0 ≤ (x5_1 : Int) := of_decide_eq_true (by first | (with_reducible assumption) | assumption)
            have q5 : x5_1 < (a0.size : Int) := of_decide_eq_true (by first | (with_reducible assumption) | assumption)
            have hx5 := bt_at a0 x5_1
            replace p5 := eq_true p5
            replace q5 := eq_true q5
            go_wp2_with (first | ((with_reducible refine gate_callee (f := 39) rfl ?_); refine goesL_ (some 16) rfl rfl Tryd.func39 (by kernel_rfl) rfl #[.int .u8 (bt a0 x5_1), .int .i64 a1] rfl (by (try simp only [List.map_toArray, List.map_cons, List.map_nil]); first | done | rfl | (simp only [List.length_drop, List.length_take]; rfl)) ?_; (with_reducible refine (doorkeeperref02_Class.calls k1 (bt a0 x5_1) a1 true _ A6.out).mono ?_); rintro e w' ⟨rfl, ⟨nd, rfl⟩⟩; refine ⟨_, rfl, ?_⟩))
            go_roundg k1
            case measure => have := HK1.out; omega
            case rel => exact ⟨(wrap64 (x5_1 + 1)), (by first | rfl | (simp; done) | (simp [*]; done)), H', ⟨by have := HK1.out; omega⟩, by repeat (first | exact Drawn0.refl _ | apply Drawn0.step)⟩
          · replace c7 := Bool.eq_false_iff.mpr c7
            subst c7
            have H1 : (some false) = some r := by rw [if_neg (show ¬ (false = true) by decide)] at H; exact H
            clear H
            have H := H1
            clear H1
            obtain rfl := Option.some.inj H
            have p5 : 0 ≤ (x5_1 : Int) := of_decide_eq_true (by first | (with_reducible assumption) | assumption)
            have q5 : x5_1 < (a0.size : Int) := of_decide_eq_true (by first | (with_reducible assumption) | assumption)
            have hx5 := bt_at a0 x5_1
            replace p5 := eq_true p5
            replace q5 := eq_true q5
            go_wp2_with (first | ((with_reducible refine gate_callee (f := 39) rfl ?_); refine goesL_ (some 16) rfl rfl Tryd.func39 (by kernel_rfl) rfl #[.int .u8 (bt a0 x5_1), .int .i64 a1] rfl (by (try simp only [List.map_toArray, List.map_cons, List.map_nil]); first | done | rfl | (simp only [List.length_drop, List.length_take]; rfl)) ?_; (with_reducible refine (doorkeeperref02_Class.calls k1 (bt a0 x5_1) a1 false _ A6.out).mono ?_); rintro e w' ⟨rfl, ⟨nd, rfl⟩⟩; refine ⟨_, rfl, ?_⟩))
            go_ret
            exact ⟨by first | rfl | (simp; done) | (simp [*]; done), by repeat (first | exact Drawn0.refl _ | apply Drawn0.step)⟩
        · rw [if_neg c4] at H
          exact absurd H (by simp)
      · rw [if_neg c3] at H
        have c3b0 : decide (x5_1 < (a0.size : Int)) = false := decide_eq_false c3
        clear c3
        obtain rfl := Option.some.inj H
        go_wp2
        go_ret
        exact ⟨by first | rfl | (simp; done) | (simp [*]; done), by repeat (first | exact Drawn0.refl _ | apply Drawn0.step)⟩

end Go.Proofs.YthilbpgkhjchcaaDoor.P
end

section
namespace Go.Proofs.YthilbpgkhjchcaaDoor.P
open Go.RowKit Go.Proofs.YthilbpgkhjchcaaDoorW.PrintWords Go.Proofs.YthilbpgkhjchcaaDoorW.PrintLast Go.Proofs.YthilbpgkhjchcaaDoorW.PrintMore
attribute [local go_sem] max2_int min2_int max_two min_two max_three min_three max_four min_four   -- for this text's walks alone
set_option linter.unusedVariables false
set_option linter.unusedSimpArgs false

/-! ### doorkeeperref02_IsToken: function 19 -/
def doorkeeperref02_IsToken.f (k : Nat) (a0 : ByteArray) : Option (Bool) := if (a0.size : Int) > 0 then ((doorkeeperref02_All.f k a0 2).bind fun t157 => (some t157)) else (some false)
theorem doorkeeperref02_IsToken.mono : ∀ a0 k, LeO (doorkeeperref02_IsToken.f k a0) (doorkeeperref02_IsToken.f (k + 1) a0) := by
  intro a0 k
  unfold doorkeeperref02_IsToken.f
  repeat' first
      | (with_reducible exact doorkeeperref02_All.mono _ _ _)
      | (with_reducible exact LeO.refl _)
      | (with_reducible exact LeO.none _)
      | (with_reducible refine LeO.ite ?_ ?_)
      | (with_reducible refine LeO.bind ?_ (fun _ => ?_))
      | exact doorkeeperref02_All.mono _ _ _
      | exact LeO.none _
      | refine LeO.ite ?_ ?_
      | refine LeO.bind ?_ (fun _ => ?_)
set_option maxHeartbeats 8000000 in
set_option maxRecDepth 100000 in
theorem doorkeeperref02_IsToken.calls (k : Nat) (a0 : ByteArray) (r : Bool) (w : World) (h : doorkeeperref02_IsToken.f k a0 = some r) :
    Calls Tryd.prog 19 #[.string a0] w fun e w' => e = .returned (.bool r) ∧ Drawn0 w w' := by
  have H : (if (a0.size : Int) > 0 then ((doorkeeperref02_All.f k a0 2).bind fun t157 => (some t157)) else (some false)) = some r := h
  clear h
  by_cases c2 : (a0.size : Int) > 0
  · rw [if_pos c2] at H
    have c2b0 : decide (0 < (a0.size : Int)) = true := decide_eq_true c2
    have c2b1 : decide (0 < a0.size) = true := decide_eq_true (by omega)
    clear c2
    replace H := Option.bind_eq_some_iff.mp H
    obtain ⟨t157, A30, H⟩ := H
    replace H : (some t157) = some r := H
    have A3 := Aside0.mk A30
    clear A30
    obtain rfl := Option.some.inj H
    go_enter Tryd.func19, Tryd.ntmps19
    go_wp2_with (first | (go_at_call 28; (with_reducible refine (doorkeeperref02_All.calls k a0 2 t157 _ A3.out).mono ?_); rintro e w' ⟨rfl, ⟨nd, rfl⟩⟩))
    go_ret
    exact ⟨by first | rfl | (simp; done) | (simp [*]; done), by repeat (first | exact Drawn0.refl _ | apply Drawn0.step)⟩
  · rw [if_neg c2] at H
    have c2b0 : decide (0 < (a0.size : Int)) = false := decide_eq_false c2
    have c2b1 : decide (0 < a0.size) = false := decide_eq_false (by omega)
    clear c2
    obtain rfl := Option.some.inj H
    go_enter Tryd.func19, Tryd.ntmps19
    go_wp2
    go_ret
    exact ⟨by first | rfl | (simp; done) | (simp [*]; done), by repeat (first | exact Drawn0.refl _ | apply Drawn0.step)⟩

end Go.Proofs.YthilbpgkhjchcaaDoor.P
end

section
namespace Go.Proofs.YthilbpgkhjchcaaDoor.P
open Go.RowKit Go.Proofs.YthilbpgkhjchcaaDoorW.PrintWords Go.Proofs.YthilbpgkhjchcaaDoorW.PrintLast Go.Proofs.YthilbpgkhjchcaaDoorW.PrintMore
attribute [local go_sem] max2_int min2_int max_two min_two max_three min_three max_four min_four   -- for this text's walks alone
set_option linter.unusedVariables false
set_option linter.unusedSimpArgs false

/-! ### doorkeeperref02_Lower: function 20 -/
def doorkeeperref02_Lower.l0 : Nat → ByteArray → List Int → Int → Option (ByteArray)
  | 0, _, _, _ => none
  | k + 1, x0, x3, x4 => if x4 < (x0.size : Int) then (if 0 ≤ x4 then (if (bt x0 x4) ≥ 65 then (if (bt x0 x4) ≤ 90 then (if x3.length < 140737488355328 then (doorkeeperref02_Lower.l0 k x0 (x3 ++ [((bt x0 x4) + 32) % 256]) (wrap64 (x4 + 1))) else (none)) else (if x3.length < 140737488355328 then (doorkeeperref02_Lower.l0 k x0 (x3 ++ [bt x0 x4]) (wrap64 (x4 + 1))) else (none))) else (if x3.length < 140737488355328 then (doorkeeperref02_Lower.l0 k x0 (x3 ++ [bt x0 x4]) (wrap64 (x4 + 1))) else (none))) else (none)) else (some (strOfNums x3))
def doorkeeperref02_Lower.f (k : Nat) (a0 : ByteArray) : Option (ByteArray) := doorkeeperref02_Lower.l0 k a0 ([] : List Int) 0
theorem doorkeeperref02_Lower.mono_l : ∀ k, (∀ y0 y1 y2, LeO (doorkeeperref02_Lower.l0 k y0 y1 y2) (doorkeeperref02_Lower.l0 (k + 1) y0 y1 y2))
  | 0 => fun _ _ _ r h => by simp [doorkeeperref02_Lower.l0] at h
  | k + 1 => by
    have ih0 := doorkeeperref02_Lower.mono_l k
    · intro y0 y1 y2
      unfold doorkeeperref02_Lower.l0
      repeat' first
      | (with_reducible exact ih0 _ _ _)
      | (with_reducible exact LeO.refl _)
      | (with_reducible exact LeO.none _)
      | (with_reducible refine LeO.ite ?_ ?_)
      | (with_reducible refine LeO.bind ?_ (fun _ => ?_))
      | exact ih0 _ _ _
      | exact LeO.none _
      | refine LeO.ite ?_ ?_
      | refine LeO.bind ?_ (fun _ => ?_)
theorem doorkeeperref02_Lower.mono : ∀ a0 k, LeO (doorkeeperref02_Lower.f k a0) (doorkeeperref02_Lower.f (k + 1) a0) := by
  intro a0 k
  have ih0 := doorkeeperref02_Lower.mono_l k
  unfold doorkeeperref02_Lower.f
  repeat' first
      | (with_reducible exact ih0 _ _ _)
      | (with_reducible exact LeO.refl _)
      | (with_reducible exact LeO.none _)
      | (with_reducible refine LeO.ite ?_ ?_)
      | (with_reducible refine LeO.bind ?_ (fun _ => ?_))
      | exact ih0 _ _ _
      | exact LeO.none _
      | refine LeO.ite ?_ ?_
      | refine LeO.bind ?_ (fun _ => ?_)
set_option maxHeartbeats 8000000 in
set_option maxRecDepth 100000 in
theorem doorkeeperref02_Lower.calls (k : Nat) (a0 : ByteArray) (r : ByteArray) (w : World) (h : doorkeeperref02_Lower.f k a0 = some r) :
    Calls Tryd.prog 20 #[.string a0] w fun e w' => e = .returned (.string r) ∧ Below w.heap.size w w' := by
  have HB := Aside0.mk (Below.refl w.heap.size w)
  have H : (doorkeeperref02_Lower.l0 k a0 ([] : List Int) 0) = some r := h
  clear h
  have H' := Aside0.mk H
  clear H
  go_enter Tryd.func20, Tryd.ntmps20
  go_wp2
  go_loopg [3, 4] k (fun kq v3 v4 w' => ∃ (x3_1 : List Int) (x4_1 : Int), v4 = .int .i64 x4_1 ∧ Aside0 (doorkeeperref02_Lower.l0 kq a0 x3_1 x4_1 = some r) ∧ Aside0 (kq ≤ k) ∧ Aside0 (Kd.R (Kd.int .u8) 5 w' w.heap.size (fun _ => True) v3 x3_1) ∧ Aside0 (Below w.heap.size w w'))
  case atStart => exact ⟨(([] : List Int)), (0), (by first | rfl | (simp; done) | (simp [*]; done)), H', ⟨Nat.le_refl _⟩, ⟨by first | exact Kd.R_nil _ _ _ _ _ | exact Kd.N_nil _ _ _ _ _ | exact Kd.V_nil _ _ _ _ _ | exact Kd.Q_nil _ _ _ _ _ | exact Kd.S_nil _ _ _ _ _⟩, ⟨by repeat (first | (with_reducible first | exact HB.out | apply below_alloc | apply pw_below_drewN | apply below_drew1) | exact HB.out)⟩⟩
  case round =>
    clear H'
    obtain ⟨x3_1, x4_1, rfl, HA, HK1, HO_3, HB⟩ := hrel
    cases gk with
    | zero => exact absurd HA.out (by simp [doorkeeperref02_Lower.l0])
    | succ k1 =>
      have H := HA.out
      clear HA
      simp only [doorkeeperref02_Lower.l0] at H
      by_cases c2 : x4_1 < (a0.size : Int)
      · rw [if_pos c2] at H
        have c2b0 : decide (x4_1 < (a0.size : Int)) = true := decide_eq_true c2
        clear c2
        by_cases c3 : 0 ≤ x4_1
        · rw [if_pos c3] at H
          have c3b0 : decide (0 ≤ x4_1) = true := decide_eq_true c3
          clear c3
          by_cases c5 : (bt a0 x4_1) ≥ 65
          · rw [if_pos c5] at H
            have c5b0 : decide (65 ≤ (bt a0 x4_1)) = true := decide_eq_true c5
            clear c5
            by_cases c6 : (bt a0 x4_1) ≤ 90
            · rw [if_pos c6] at H
              have c6b0 : decide ((bt a0 x4_1) ≤ 90) = true := decide_eq_true c6
              clear c6
              by_cases c7 : x3_1.length < 140737488355328
              · rw [if_pos c7] at H
                have LMc7 := Aside0.mk c7
                clear c7
                obtain ⟨y158, hy158⟩ : ∃ y_ : List Int, y_ = (x3_1 ++ [((bt a0 x4_1) + 32) % 256]) := ⟨_, rfl⟩
                replace H : (doorkeeperref02_Lower.l0 k1 a0 y158 (wrap64 (x4_1 + 1))) = some r := by first | (rw [hy158]; with_reducible exact H) | (have H2_ := (Option.bind_some _ _).symm.trans H; rw [hy158]; with_reducible exact H2_) | (have H2_ := (Option.bind_some _ _).symm.trans H; with_reducible exact H2_) | with_reducible exact H | (rw [hy158]; exact H) | exact H
                have Ny158 := Aside0.mk hy158
                clear hy158
                have H' := Aside0.mk H
                clear H
                have p4 : 0 ≤ (x4_1 : Int) := of_decide_eq_true (by first | (with_reducible assumption) | assumption)
                have q4 : x4_1 < (a0.size : Int) := of_decide_eq_true (by first | (with_reducible assumption) | assumption)
                have hx4 := bt_at a0 x4_1
                replace p4 := eq_true p4
                replace q4 := eq_true q4
                go_wp2_with (first | ((with_reducible refine gate_builtin (b := .append) (xs := #[.tmp 23, .tmp 25]) rfl ?_); at_builtin; refine Kd.R_append (Kd.int .u8) (w0 := w) w.heap.size rfl (.tmp 23) (.tmp 25) 44 5 (.int .u8 0) 1 rfl Tryd.underlying44 info5 rfl (by decide) (by omega) u3 x3_1 (((bt a0 x4_1) + 32) % 256) [.int .u8 (((bt a0 x4_1) + 32) % 256)] (fun _ => True) (fun _ => False) rfl rfl ?aP (fun _ hk => hk.elim) ?aF ?aO ?aB ?aS ?aL ?_; (case aP => exact rfl); (case aB => exact (by repeat (first | (with_reducible first | exact HB.out | apply below_alloc | apply pw_below_drewN | apply below_drew1) | exact HB.out))); (case aF => exact (fun _ _ => trivial)); (case aO => exact (by (with_reducible repeat (first | apply Kd.R_alloc | apply Kd.R_drewN | apply Kd.R_drew)); exact HO_3.out)); (case aS => exact (below_size (by repeat (first | (with_reducible first | exact HB.out | apply below_alloc | apply pw_below_drewN | apply below_drew1) | exact HB.out)))); (case aL => have := LMc7.out; omega); intro v159 w8 ho hb hg hat; rw [← Ny158.out] at ho; have n0_ := Aside0.mk (hb); have n1_ := Aside0.mk (ho); clear HB; clear HO_3; have HB := n0_; have HO160 := n1_; clear n0_ n1_; clear ho hb hg hat))
                go_roundg k1
                case measure => have := HK1.out; omega
                case rel => exact ⟨(y158), (wrap64 (x4_1 + 1)), (by first | rfl | (simp; done) | (simp [*]; done)), H', ⟨by have := HK1.out; omega⟩, ⟨by (with_reducible repeat (first | apply Kd.R_alloc | apply Kd.R_drewN | apply Kd.R_drew)); exact HO160.out⟩, ⟨by repeat (first | (with_reducible first | exact HB.out | apply below_alloc | apply pw_below_drewN | apply below_drew1) | exact HB.out)⟩⟩
              · rw [if_neg c7] at H
                exact absurd H (by simp)
            · rw [if_neg c6] at H
              have c6b0 : decide ((bt a0 x4_1) ≤ 90) = false := decide_eq_false c6
              clear c6
              by_cases c9 : x3_1.length < 140737488355328
              · rw [if_pos c9] at H
                have LMc9 := Aside0.mk c9
                clear c9
                obtain ⟨y161, hy161⟩ : ∃ y_ : List Int, y_ = (x3_1 ++ [bt a0 x4_1]) := ⟨_, rfl⟩
                replace H : (doorkeeperref02_Lower.l0 k1 a0 y161 (wrap64 (x4_1 + 1))) = some r := by first | (rw [hy161]; with_reducible exact H) | (have H2_ := (Option.bind_some _ _).symm.trans H; rw [hy161]; with_reducible exact H2_) | (have H2_ := (Option.bind_some _ _).symm.trans H; with_reducible exact H2_) | with_reducible exact H | (rw [hy161]; exact H) | exact H
                have Ny161 := Aside0.mk hy161
                clear hy161
                have H' := Aside0.mk H
                clear H
                have p4 : 0 ≤ (x4_1 : Int) := of_decide_eq_true (by first | (with_reducible assumption) | assumption)
                have q4 : x4_1 < (a0.size : Int) := of_decide_eq_true (by first | (with_reducible assumption) | assumption)
                have hx4 := bt_at a0 x4_1
                replace p4 := eq_true p4
                replace q4 := eq_true q4
                go_wp2_with (first | ((with_reducible refine gate_builtin (b := .append) (xs := #[.tmp 23, .tmp 25]) rfl ?_); at_builtin; refine Kd.R_append (Kd.int .u8) (w0 := w) w.heap.size rfl (.tmp 23) (.tmp 25) 44 5 (.int .u8 0) 1 rfl Tryd.underlying44 info5 rfl (by decide) (by omega) u3 x3_1 (bt a0 x4_1) [.int .u8 (bt a0 x4_1)] (fun _ => True) (fun _ => False) rfl rfl ?aP (fun _ hk => hk.elim) ?aF ?aO ?aB ?aS ?aL ?_; (case aP => exact rfl); (case aB => exact (by repeat (first | (with_reducible first | exact HB.out | apply below_alloc | apply pw_below_drewN | apply below_drew1) | exact HB.out))); (case aF => exact (fun _ _ => trivial)); (case aO => exact (by (with_reducible repeat (first | apply Kd.R_alloc | apply Kd.R_drewN | apply Kd.R_drew)); exact HO_3.out)); (case aS => exact (below_size (by repeat (first | (with_reducible first | exact HB.out | apply below_alloc | apply pw_below_drewN | apply below_drew1) | exact HB.out)))); (case aL => have := LMc9.out; omega); intro v162 w10 ho hb hg hat; rw [← Ny161.out] at ho; have n0_ := Aside0.mk (hb); have n1_ := Aside0.mk (ho); clear HB; clear HO_3; have HB := n0_; have HO163 := n1_; clear n0_ n1_; clear ho hb hg hat))
                go_roundg k1
                case measure => have := HK1.out; omega
                case rel => exact ⟨(y161), (wrap64 (x4_1 + 1)), (by first | rfl | (simp; done) | (simp [*]; done)), H', ⟨by have := HK1.out; omega⟩, ⟨by (with_reducible repeat (first | apply Kd.R_alloc | apply Kd.R_drewN | apply Kd.R_drew)); exact HO163.out⟩, ⟨by repeat (first | (with_reducible first | exact HB.out | apply below_alloc | apply pw_below_drewN | apply below_drew1) | exact HB.out)⟩⟩
              · rw [if_neg c9] at H
                exact absurd H (by simp)
          · rw [if_neg c5] at H
            have c5b0 : decide (65 ≤ (bt a0 x4_1)) = false := decide_eq_false c5
            clear c5
            by_cases c11 : x3_1.length < 140737488355328
            · rw [if_pos c11] at H
              have LMc11 := Aside0.mk c11
              clear c11
              obtain ⟨y164, hy164⟩ : ∃ y_ : List Int, y_ = (x3_1 ++ [bt a0 x4_1]) := ⟨_, rfl⟩
              replace H : (doorkeeperref02_Lower.l0 k1 a0 y164 (wrap64 (x4_1 + 1))) = some r := by first | (rw [hy164]; with_reducible exact H) | (have H2_ := (Option.bind_some _ _).symm.trans H; rw [hy164]; with_reducible exact H2_) | (have H2_ := (Option.bind_some _ _).symm.trans H; with_reducible exact H2_) | with_reducible exact H | (rw [hy164]; exact H) | exact H
              have Ny164 := Aside0.mk hy164
              clear hy164
              have H' := Aside0.mk H
              clear H
              have p4 : 0 ≤ (x4_1 : Int) := of_decide_eq_true (by first | (with_reducible assumption) | assumption)
              have q4 : x4_1 < (a0.size : Int) := of_decide_eq_true (by first | (with_reducible assumption) | assumption)
              have hx4 := bt_at a0 x4_1
              replace p4 := eq_true p4
              replace q4 := eq_true q4
              go_wp2_with (first | ((with_reducible refine gate_builtin (b := .append) (xs := #[.tmp 23, .tmp 25]) rfl ?_); at_builtin; refine Kd.R_append (Kd.int .u8) (w0 := w) w.heap.size rfl (.tmp 23) (.tmp 25) 44 5 (.int .u8 0) 1 rfl Tryd.underlying44 info5 rfl (by decide) (by omega) u3 x3_1 (bt a0 x4_1) [.int .u8 (bt a0 x4_1)] (fun _ => True) (fun _ => False) rfl rfl ?aP (fun _ hk => hk.elim) ?aF ?aO ?aB ?aS ?aL ?_; (case aP => exact rfl); (case aB => exact (by repeat (first | (with_reducible first | exact HB.out | apply below_alloc | apply pw_below_drewN | apply below_drew1) | exact HB.out))); (case aF => exact (fun _ _ => trivial)); (case aO => exact (by (with_reducible repeat (first | apply Kd.R_alloc | apply Kd.R_drewN | apply Kd.R_drew)); exact HO_3.out)); (case aS => exact (below_size (by repeat (first | (with_reducible first | exact HB.out | apply below_alloc | apply pw_below_drewN | apply below_drew1) | exact HB.out)))); (case aL => have := LMc11.out; omega); intro v165 w12 ho hb hg hat; rw [← Ny164.out] at ho; have n0_ := Aside0.mk (hb); have n1_ := Aside0.mk (ho); clear HB; clear HO_3; have HB := n0_; have HO166 := n1_; clear n0_ n1_; clear ho hb hg hat))
              go_roundg k1
              case measure => have := HK1.out; omega
              case rel => exact ⟨(y164), (wrap64 (x4_1 + 1)), (by first | rfl | (simp; done) | (simp [*]; done)), H', ⟨by have := HK1.out; omega⟩, ⟨by (with_reducible repeat (first | apply Kd.R_alloc | apply Kd.R_drewN | apply Kd.R_drew)); exact HO166.out⟩, ⟨by repeat (first | (with_reducible first | exact HB.out | apply below_alloc | apply pw_below_drewN | apply below_drew1) | exact HB.out)⟩⟩
            · rw [if_neg c11] at H
              exact absurd H (by simp)
        · rw [if_neg c3] at H
          exact absurd H (by simp)
      · rw [if_neg c2] at H
        have c2b0 : decide (x4_1 < (a0.size : Int)) = false := decide_eq_false c2
        clear c2
        obtain rfl := Option.some.inj H
        have hcv13 := own_string (P := Tryd.prog) Tryd.underlying44 Tryd.underlying5 Tryd.underlying9 (Kd.own_of_R HO_3.out)
        go_wp2
        go_ret
        exact ⟨by first | rfl | (simp [errW_none, errW_some] <;> rfl) | (simp [*, errW_none, errW_some] <;> rfl), by repeat (first | (with_reducible first | exact HB.out | apply below_alloc | apply pw_below_drewN | apply below_drew1) | exact HB.out)⟩

end Go.Proofs.YthilbpgkhjchcaaDoor.P
end

section
namespace Go.Proofs.YthilbpgkhjchcaaDoor.P
open Go.RowKit Go.Proofs.YthilbpgkhjchcaaDoorW.PrintWords Go.Proofs.YthilbpgkhjchcaaDoorW.PrintLast Go.Proofs.YthilbpgkhjchcaaDoorW.PrintMore
attribute [local go_sem] max2_int min2_int max_two min_two max_three min_three max_four min_four   -- for this text's walks alone
set_option linter.unusedVariables false
set_option linter.unusedSimpArgs false

/-! ### doorkeeperref09_Texts: function 12 -/
def doorkeeperref09_Texts.l0 : Nat → List ByteArray → List ByteArray → Int → Option (Bool)
  | 0, _, _, _ => none
  | k + 1, x0, x1, x5 => if x5 < (x0.length : Int) then (if 0 ≤ x5 then (if x5 < (x1.length : Int) then (if (rdOf ByteArray.empty x0 x5).toList = (rdOf ByteArray.empty x1 x5).toList then (doorkeeperref09_Texts.l0 k x0 x1 (wrap64 (x5 + 1))) else (some false)) else (none)) else (none)) else (some true)
def doorkeeperref09_Texts.f (k : Nat) (l0 : List ByteArray) (l1 : List ByteArray) : Option (Bool) := if (l0.length : Int) = (l1.length : Int) then (doorkeeperref09_Texts.l0 k l0 l1 0) else (some false)
theorem doorkeeperref09_Texts.mono_l : ∀ k, (∀ y0 y1 y2, LeO (doorkeeperref09_Texts.l0 k y0 y1 y2) (doorkeeperref09_Texts.l0 (k + 1) y0 y1 y2))
  | 0 => fun _ _ _ r h => by simp [doorkeeperref09_Texts.l0] at h
  | k + 1 => by
    have ih0 := doorkeeperref09_Texts.mono_l k
    · intro y0 y1 y2
      unfold doorkeeperref09_Texts.l0
      repeat' first
      | (with_reducible exact ih0 _ _ _)
      | (with_reducible exact LeO.refl _)
      | (with_reducible exact LeO.none _)
      | (with_reducible refine LeO.ite ?_ ?_)
      | (with_reducible refine LeO.bind ?_ (fun _ => ?_))
      | exact ih0 _ _ _
      | exact LeO.none _
      | refine LeO.ite ?_ ?_
      | refine LeO.bind ?_ (fun _ => ?_)
theorem doorkeeperref09_Texts.mono : ∀ a0 a1 k, LeO (doorkeeperref09_Texts.f k a0 a1) (doorkeeperref09_Texts.f (k + 1) a0 a1) := by
  intro a0 a1 k
  have ih0 := doorkeeperref09_Texts.mono_l k
  unfold doorkeeperref09_Texts.f
  repeat' first
      | (with_reducible exact ih0 _ _ _)
      | (with_reducible exact LeO.refl _)
      | (with_reducible exact LeO.none _)
      | (with_reducible refine LeO.ite ?_ ?_)
      | (with_reducible refine LeO.bind ?_ (fun _ => ?_))
      | exact ih0 _ _ _
      | exact LeO.none _
      | refine LeO.ite ?_ ?_
      | refine LeO.bind ?_ (fun _ => ?_)
set_option maxHeartbeats 8000000 in
set_option maxRecDepth 100000 in
theorem doorkeeperref09_Texts.calls (k : Nat) (A0 : Option Addr) (c0 : Nat) (l0 : List ByteArray) (A1 : Option Addr) (c1 : Nat) (l1 : List ByteArray) (r : Bool) (w : World) (hr0 : Kd.C Kd.string w A0 l0.length l0) (hc0 : l0.length ≤ c0) (hr1 : Kd.C Kd.string w A1 l1.length l1) (hc1 : l1.length ≤ c1) (h : doorkeeperref09_Texts.f k l0 l1 = some r) :
    Calls Tryd.prog 12 #[.slice A0 l0.length c0, .slice A1 l1.length c1] w fun e w' => e = .returned (.bool r) ∧ Drawn0 w w' := by
  have HR0 := Aside0.mk hr0
  have HC0 := Aside0.mk hc0
  clear hr0 hc0
  have HR1 := Aside0.mk hr1
  have HC1 := Aside0.mk hc1
  clear hr1 hc1
  have H : (if (l0.length : Int) = (l1.length : Int) then (doorkeeperref09_Texts.l0 k l0 l1 0) else (some false)) = some r := h
  clear h
  by_cases c3 : (l0.length : Int) = (l1.length : Int)
  · rw [if_pos c3] at H
    have c3b0 : ((l0.length : Int) == (l1.length : Int)) = true := beq_iff_eq.mpr c3
    have c3b1 : ((l0.length : Int) != (l1.length : Int)) = false := bne_eq_false_iff_eq.mpr c3
    have c3b2 : (l0.length == l1.length) = true := by first | simpa using c3 | (simp at c3 ⊢; omega)
    clear c3
    have H' := Aside0.mk H
    clear H
    go_enter Tryd.func12, Tryd.ntmps12
    go_wp2
    repeat (go_quiet (fail); try go_wp2)
    go_loopg [5] k (fun kq v5 w' => ∃ (x5_1 : Int), v5 = .int .i64 x5_1 ∧ Aside0 (doorkeeperref09_Texts.l0 kq l0 l1 x5_1 = some r) ∧ Aside0 (kq ≤ k) ∧ Drawn0 w w')
    case atStart => exact ⟨(0), (by first | rfl | (simp; done) | (simp [*]; done)), H', ⟨Nat.le_refl _⟩, by repeat (first | exact Drawn0.refl _ | apply Drawn0.step)⟩
    case round =>
      clear H'
      try clear c1
      try clear p2
      try clear c3
      try clear c3b0
      try clear c3b1
      try clear c3b2
      obtain ⟨x5_1, rfl, HA, HK1, ⟨m1, rfl⟩⟩ := hrel
      cases gk with
      | zero => exact absurd HA.out (by simp [doorkeeperref09_Texts.l0])
      | succ k1 =>
        have H := HA.out
        clear HA
        simp only [doorkeeperref09_Texts.l0] at H
        by_cases c4 : x5_1 < (l0.length : Int)
        · rw [if_pos c4] at H
          have c4b0 : decide (x5_1 < (l0.length : Int)) = true := decide_eq_true c4
          clear c4
          by_cases c5 : 0 ≤ x5_1
          · rw [if_pos c5] at H
            have c5b0 : decide (0 ≤ x5_1) = true := decide_eq_true c5
            clear c5
            by_cases c6 : x5_1 < (l1.length : Int)
            · rw [if_pos c6] at H
              have c6b0 : decide (x5_1 < (l1.length : Int)) = true := decide_eq_true c6
              clear c6
              by_cases c7 : (rdOf ByteArray.empty l0 x5_1).toList = (rdOf ByteArray.empty l1 x5_1).toList
              · rw [if_pos c7] at H
                have c7b0 : ((rdOf ByteArray.empty l0 x5_1).toList == (rdOf ByteArray.empty l1 x5_1).toList) = true := beq_iff_eq.mpr c7
                have c7b1 : ((rdOf ByteArray.empty l0 x5_1).toList != (rdOf ByteArray.empty l1 x5_1).toList) = false := bne_eq_false_iff_eq.mpr c7
                clear c7
                have H' := Aside0.mk H
                clear H
                have p101 : 0 ≤ (x5_1 : Int) := of_decide_eq_true (by first | (with_reducible assumption) | assumption)
                have q101 : x5_1 < (l0.length : Int) := of_decide_eq_true (by first | (with_reducible assumption) | assumption)
                obtain ⟨ad101, e101, hx101_0⟩ := Kd.at_string HR0.out x5_1 p101 q101
                cases e101
                replace p101 := eq_true p101
                replace q101 := eq_true q101
                have p102 : 0 ≤ (x5_1 : Int) := of_decide_eq_true (by first | (with_reducible assumption) | assumption)
                have q102 : x5_1 < (l1.length : Int) := of_decide_eq_true (by first | (with_reducible assumption) | assumption)
                obtain ⟨ad102, e102, hx102_0⟩ := Kd.at_string HR1.out x5_1 p102 q102
                cases e102
                replace p102 := eq_true p102
                replace q102 := eq_true q102
                go_wp2
                repeat (go_quiet (fail); try go_wp2)
                go_roundg k1
                case measure => have := HK1.out; omega
                case rel => exact ⟨(wrap64 (x5_1 + 1)), (by first | rfl | (simp; done) | (simp [*]; done)), H', ⟨by have := HK1.out; omega⟩, by repeat (first | exact Drawn0.refl _ | apply Drawn0.step)⟩
              · rw [if_neg c7] at H
                have c7b0 : ((rdOf ByteArray.empty l0 x5_1).toList == (rdOf ByteArray.empty l1 x5_1).toList) = false := beq_eq_false_iff_ne.mpr c7
                have c7b1 : ((rdOf ByteArray.empty l0 x5_1).toList != (rdOf ByteArray.empty l1 x5_1).toList) = true := bne_iff_ne.mpr c7
                obtain rfl := Option.some.inj H
                have p101 : 0 ≤ (x5_1 : Int) := of_decide_eq_true (by first | (with_reducible assumption) | assumption)
                have q101 : x5_1 < (l0.length : Int) := of_decide_eq_true (by first | (with_reducible assumption) | assumption)
                obtain ⟨ad101, e101, hx101_0⟩ := Kd.at_string HR0.out x5_1 p101 q101
                cases e101
                replace p101 := eq_true p101
                replace q101 := eq_true q101
                have p102 : 0 ≤ (x5_1 : Int) := of_decide_eq_true (by first | (with_reducible assumption) | assumption)
                have q102 : x5_1 < (l1.length : Int) := of_decide_eq_true (by first | (with_reducible assumption) | assumption)
                obtain ⟨ad102, e102, hx102_0⟩ := Kd.at_string HR1.out x5_1 p102 q102
                cases e102
                replace p102 := eq_true p102
                replace q102 := eq_true q102
                go_wp2
                repeat (go_quiet (fail); try go_wp2)
                go_ret
                exact ⟨by first | rfl | (simp; done) | (simp [*]; done), by repeat (first | exact Drawn0.refl _ | apply Drawn0.step)⟩
            · rw [if_neg c6] at H
              exact absurd H (by simp)
          · rw [if_neg c5] at H
            exact absurd H (by simp)
        · rw [if_neg c4] at H
          have c4b0 : decide (x5_1 < (l0.length : Int)) = false := decide_eq_false c4
          clear c4
          obtain rfl := Option.some.inj H
          go_wp2
          repeat (go_quiet (fail); try go_wp2)
          go_ret
          exact ⟨by first | rfl | (simp; done) | (simp [*]; done), by repeat (first | exact Drawn0.refl _ | apply Drawn0.step)⟩
  · rw [if_neg c3] at H
    have c3b0 : ((l0.length : Int) == (l1.length : Int)) = false := beq_eq_false_iff_ne.mpr c3
    have c3b1 : ((l0.length : Int) != (l1.length : Int)) = true := bne_iff_ne.mpr c3
    have c3b2 : (l0.length == l1.length) = false := by first | simpa using c3 | (simp at c3 ⊢; omega)
    obtain rfl := Option.some.inj H
    go_enter Tryd.func12, Tryd.ntmps12
    go_wp2
    repeat (go_quiet (fail); try go_wp2)
    go_ret
    exact ⟨by first | rfl | (simp; done) | (simp [*]; done), by repeat (first | exact Drawn0.refl _ | apply Drawn0.step)⟩

end Go.Proofs.YthilbpgkhjchcaaDoor.P
end

section
namespace Go.Proofs.YthilbpgkhjchcaaDoor.CRef
open Go Go.RowKit Go.Proofs.YthilbpgkhjchcaaDoorW.PrintWords Go.Proofs.YthilbpgkhjchcaaDoor.PB Go.Proofs.YthilbpgkhjchcaaDoor.P
open Go.Proofs.YthilbpgkhjchcaaDoor.LSpec (blankL trimL)

theorem wrap_succ {i n : Nat} (h : i < n) (hn : n ≤ 9223372036854775807) : wrap64 ((i : Int) + 1) = ((i + 1 : Nat) : Int) := by
  rw [wrap64_ok (by omega) (by omega)]; omega
theorem wrap_pred {i : Nat} (h : 0 < i) (hn : i ≤ 9223372036854775807) : wrap64 ((i : Int) - 1) = ((i - 1 : Nat) : Int) := by
  rw [wrap64_ok (by omega) (by omega)]; omega
theorem rd_nat (l : List ByteArray) (i : Nat) (h : i < l.length) : rdOf ByteArray.empty l (i : Int) = l[i] := by
  rw [rdOf, Int.toNat_natCast, List.getD_eq_getElem?_getD, List.getElem?_eq_getElem h]; rfl
theorem bt_nat (l : List UInt8) (i : Nat) (h : i < l.length) : bt (ofL l) (i : Int) = (l[i].toNat : Int) := by
  rw [bt_ofL, Int.toNat_natCast, List.getElem?_eq_getElem h]; rfl
theorem toNat_inj {a b : UInt8} : ((a.toNat : Int) = (b.toNat : Int)) ↔ a = b := by
  constructor
  · intro h; exact UInt8.toNat_inj.1 (by omega)
  · rintro rfl; rfl
theorem toList_inj {a b : ByteArray} : a.toList = b.toList ↔ a = b := by
  rw [toList_toL, toList_toL]; exact ⟨toL_inj, fun h => by rw [h]⟩
theorem drop_cons {α : Type} (l : List α) (i : Nat) (h : i < l.length) : l.drop i = l[i] :: l.drop (i + 1) := List.drop_eq_getElem_cons h

/-! lists of texts are compared -/
theorem texts_l0 (a b : List ByteArray) (hl : a.length = b.length) (hn : a.length ≤ 9223372036854775807) : ∀ (d i : Nat), a.length - i = d → i ≤ a.length →
    Ev (fun k => doorkeeperref09_Texts.l0 k a b (i : Int)) (decide (a.drop i = b.drop i)) := by
  intro d
  induction d with
  | zero =>
    intro i hd hi
    obtain rfl : i = a.length := by omega
    refine Ev.step (f := fun _ => some true) (fun k => ?_) (by rw [List.drop_length, hl, List.drop_length]; exact Ev.now _)
    simp only [doorkeeperref09_Texts.l0]
    rw [if_neg (by omega)]
  | succ d ih =>
    intro i hd hi
    have h1 : i < a.length := by omega
    have h2 : i < b.length := by omega
    by_cases e : a[i] = b[i]
    · refine Ev.step (f := fun k => doorkeeperref09_Texts.l0 k a b ((i + 1 : Nat) : Int)) (fun k => ?_) ?_
      · simp only [doorkeeperref09_Texts.l0]
        rw [if_pos (by omega), if_pos (by omega), if_pos (by omega), rd_nat _ _ h1, rd_nat _ _ h2, if_pos (toList_inj.2 e), wrap_succ h1 hn]
      · have : decide (a.drop i = b.drop i) = decide (a.drop (i + 1) = b.drop (i + 1)) := by
          rw [decide_eq_decide, drop_cons a i h1, drop_cons b i h2, e]; simp only [List.cons.injEq, true_and]
        rw [this]
        exact ih (i + 1) (by omega) (by omega)
    · refine Ev.step (f := fun _ => some false) (fun k => ?_) ?_
      · simp only [doorkeeperref09_Texts.l0]
        rw [if_pos (by omega), if_pos (by omega), if_pos (by omega), rd_nat _ _ h1, rd_nat _ _ h2, if_neg (fun h => e (toList_inj.1 h))]
      · have : decide (a.drop i = b.drop i) = false := by
          rw [decide_eq_false_iff_not, drop_cons a i h1, drop_cons b i h2]; simp only [List.cons.injEq, e, false_and, not_false_eq_true]
        rw [this]
        exact Ev.now _
theorem texts_ev (a b : List ByteArray) (hn : a.length ≤ 9223372036854775807) : Ev (fun k => doorkeeperref09_Texts.f k a b) (decide (a = b)) := by
  by_cases hl : a.length = b.length
  · refine Ev.congr (f := fun k => doorkeeperref09_Texts.l0 k a b ((0 : Nat) : Int)) (fun k => ?_) (by simpa using texts_l0 a b hl hn _ 0 rfl (Nat.zero_le _))
    unfold doorkeeperref09_Texts.f
    rw [if_pos (by omega)]; rfl
  · refine Ev.congr (f := fun _ => some false) (fun k => ?_) ?_
    · unfold doorkeeperref09_Texts.f
      rw [if_neg (by omega)]
    · have : decide (a = b) = false := by simp; intro h; exact hl (by rw [h])
      rw [this]; exact Ev.now _

/-! a byte in a text -/
theorem in_l0 (c : UInt8) (l : List UInt8) (hn : l.length ≤ 9223372036854775807) : ∀ (d i : Nat), l.length - i = d → i ≤ l.length →
    Ev (fun k => doorkeeperref02_In.l0 k (c.toNat : Int) (ofL l) (i : Int)) ((l.drop i).contains c) := by
  intro d
  induction d with
  | zero =>
    intro i hd hi
    obtain rfl : i = l.length := by omega
    refine Ev.step (f := fun _ => some false) (fun k => ?_) (by rw [List.drop_length]; exact Ev.now _)
    simp only [doorkeeperref02_In.l0]
    rw [if_neg (by rw [size_ofL]; omega)]
  | succ d ih =>
    intro i hd hi
    have h1 : i < l.length := by omega
    by_cases e : l[i] = c
    · refine Ev.step (f := fun _ => some true) (fun k => ?_) ?_
      · simp only [doorkeeperref02_In.l0]
        rw [if_pos (by rw [size_ofL]; omega), if_pos (by omega), bt_nat _ _ h1, if_pos (toNat_inj.2 e)]
      · rw [drop_cons l i h1, e]
        simp only [List.contains_cons, beq_self_eq_true, Bool.true_or]
        exact Ev.now _
    · refine Ev.step (f := fun k => doorkeeperref02_In.l0 k (c.toNat : Int) (ofL l) ((i + 1 : Nat) : Int)) (fun k => ?_) ?_
      · simp only [doorkeeperref02_In.l0]
        rw [if_pos (by rw [size_ofL]; omega), if_pos (by omega), bt_nat _ _ h1, if_neg (fun h => e (toNat_inj.1 h)), wrap_succ h1 hn]
      · have : (l.drop i).contains c = (l.drop (i + 1)).contains c := by
          rw [drop_cons l i h1]
          simp only [List.contains_cons]
          rw [show (c == l[i]) = false from by simpa using fun h => e h.symm]; rfl
        rw [this]
        exact ih (i + 1) (by omega) (by omega)
theorem in_ev (c : UInt8) (s : ByteArray) (hn : s.size ≤ 9223372036854775807) : Ev (fun k => doorkeeperref02_In.f k (c.toNat : Int) s) ((toL s).contains c) := by
  have := in_l0 c (toL s) (by rw [toL_length]; exact hn) _ 0 rfl (Nat.zero_le _)
  rw [ofL_toL] at this
  simpa [doorkeeperref02_In.f] using this

/-! tokens -/
/-- a byte of tokens. -/
def tokB (c : UInt8) : Bool :=
  (65 ≤ c && c ≤ 90) || (97 ≤ c && c ≤ 122) || (48 ≤ c && c ≤ 57) || [33, 35, 36, 37, 38, 39, 42, 43, 45, 46, 94, 95, 96, 124, 126].contains c
def isTok (s : ByteArray) : Bool := !(toL s).isEmpty && (toL s).all tokB
theorem class2_fin : ∀ n : Fin 256, doorkeeperref02_Class.f 60 (n.val : Int) 2 = some (tokB (UInt8.ofNat n.val)) := by decide +kernel
theorem class2_ev (c : UInt8) : Ev (fun k => doorkeeperref02_Class.f k (c.toNat : Int) 2) (tokB c) := by
  have := class2_fin ⟨c.toNat, c.toNat_lt⟩
  refine Ev.of (k := 60) (fun k => doorkeeperref02_Class.mono _ _ k) ?_
  simpa using this
theorem all_l0 (p : UInt8 → Bool) (cl : Int) (hp : ∀ c : UInt8, Ev (fun k => doorkeeperref02_Class.f k (c.toNat : Int) cl) (p c)) (l : List UInt8) (hn : l.length ≤ 9223372036854775807) : ∀ (d i : Nat), l.length - i = d → i ≤ l.length →
    Ev (fun k => doorkeeperref02_All.l0 k (ofL l) cl (i : Int)) ((l.drop i).all p) := by
  intro d
  induction d with
  | zero =>
    intro i hd hi
    obtain rfl : i = l.length := by omega
    refine Ev.step (f := fun _ => some true) (fun k => ?_) (by rw [List.drop_length]; exact Ev.now _)
    simp only [doorkeeperref02_All.l0]
    rw [if_neg (by rw [size_ofL]; omega)]
  | succ d ih =>
    intro i hd hi
    have h1 : i < l.length := by omega
    refine Ev.step (f := fun k => (doorkeeperref02_Class.f k (l[i].toNat : Int) cl).bind fun t => if t = true then doorkeeperref02_All.l0 k (ofL l) cl ((i + 1 : Nat) : Int) else some false) (fun k => ?_) ?_
    · simp only [doorkeeperref02_All.l0]
      rw [if_pos (by rw [size_ofL]; omega), if_pos (by omega), bt_nat _ _ h1, wrap_succ h1 hn]
    · refine Ev.bind (hp l[i]) ?_
      rw [drop_cons l i h1, List.all_cons]
      cases p l[i] with
      | true => simpa using ih (i + 1) (by omega) (by omega)
      | false => simpa using Ev.now (α := Bool) false
theorem all_ev (p : UInt8 → Bool) (cl : Int) (hp : ∀ c : UInt8, Ev (fun k => doorkeeperref02_Class.f k (c.toNat : Int) cl) (p c)) (s : ByteArray) (hn : s.size ≤ 9223372036854775807) : Ev (fun k => doorkeeperref02_All.f k s cl) ((toL s).all p) := by
  have := all_l0 p cl hp (toL s) (by rw [toL_length]; exact hn) _ 0 rfl (Nat.zero_le _)
  rw [ofL_toL] at this
  simpa [doorkeeperref02_All.f] using this
theorem isToken_ev (s : ByteArray) (hn : s.size ≤ 9223372036854775807) : Ev (fun k => doorkeeperref02_IsToken.f k s) (isTok s) := by
  by_cases h : toL s = []
  · have h0 : s.size = 0 := by rw [← toL_length, h]; rfl
    refine Ev.congr (f := fun _ => some false) (fun k => ?_) (by simpa [isTok, h] using Ev.now (α := Bool) false)
    unfold doorkeeperref02_IsToken.f
    rw [if_neg (by omega)]
  · have h0 : 0 < s.size := by rw [← toL_length]; exact List.length_pos_iff.2 h
    refine Ev.congr (f := fun k => (doorkeeperref02_All.f k s 2).bind fun t => some t) (fun k => ?_) ?_
    · unfold doorkeeperref02_IsToken.f
      rw [if_pos (by omega)]
    · have : isTok s = (toL s).all tokB := by simp [isTok, h]
      rw [this]
      exact Ev.bind (all_ev tokB 2 class2_ev s hn) (Ev.now _)

/-! lower case -/
def lowB (c : UInt8) : UInt8 := if 65 ≤ c ∧ c ≤ 90 then c + 32 else c
def lowL (l : List UInt8) : List UInt8 := l.map lowB
def lowS (s : ByteArray) : ByteArray := ofL (lowL (toL s))
theorem lowB_nat (c : UInt8) : ((lowB c).toNat : Int) = if (c.toNat : Int) ≥ 65 then (if (c.toNat : Int) ≤ 90 then ((c.toNat : Int) + 32) % 256 else c.toNat) else c.toNat := by
  have h1 : (65 ≤ c) ↔ (c.toNat : Int) ≥ 65 := by rw [UInt8.le_iff_toNat_le, show (65 : UInt8).toNat = 65 from rfl]; omega
  have h2 : (c ≤ 90) ↔ (c.toNat : Int) ≤ 90 := by rw [UInt8.le_iff_toNat_le, show (90 : UInt8).toNat = 90 from rfl]; omega
  have h32 : (32 : UInt8).toNat = 32 := rfl
  unfold lowB
  by_cases a : (c.toNat : Int) ≥ 65
  · by_cases b : (c.toNat : Int) ≤ 90
    · rw [if_pos ⟨h1.2 a, h2.2 b⟩, if_pos a, if_pos b, UInt8.toNat_add]; omega
    · rw [if_neg (fun h => b (h2.1 h.2)), if_pos a, if_neg b]
  · rw [if_neg (fun h => a (h1.1 h.1)), if_neg a]
theorem lower_l0 (l : List UInt8) (hn : l.length ≤ 140737488355328) : ∀ (d i : Nat), l.length - i = d → i ≤ l.length →
    Ev (fun k => doorkeeperref02_Lower.l0 k (ofL l) ((lowL (l.take i)).map fun c => (c.toNat : Int)) (i : Int)) (ofL (lowL l)) := by
  intro d
  induction d with
  | zero =>
    intro i hd hi
    obtain rfl : i = l.length := by omega
    refine Ev.step (f := fun _ => some (ofL (lowL l))) (fun k => ?_) (Ev.now _)
    simp only [doorkeeperref02_Lower.l0]
    rw [if_neg (by rw [size_ofL]; omega), List.take_length, strOfNums_nat]
  | succ d ih =>
    intro i hd hi
    have h1 : i < l.length := by omega
    have e1 : (lowL (l.take (i + 1))).map (fun c => (c.toNat : Int)) = (lowL (l.take i)).map (fun c => (c.toNat : Int)) ++ [((lowB l[i]).toNat : Int)] := by
      rw [List.take_succ_eq_append_getElem h1, lowL, List.map_append, List.map_append]; rfl
    have e2 : ((lowL (l.take i)).map fun c => (c.toNat : Int)).length < 140737488355328 := by simp [lowL]; omega
    refine Ev.step (f := fun k => doorkeeperref02_Lower.l0 k (ofL l) ((lowL (l.take (i + 1))).map fun c => (c.toNat : Int)) ((i + 1 : Nat) : Int)) (fun k => ?_) (ih (i + 1) (by omega) (by omega))
    simp only [doorkeeperref02_Lower.l0]
    rw [if_pos (by rw [size_ofL]; omega), if_pos (by omega), bt_nat _ _ h1, wrap_succ h1 (by omega), e1, lowB_nat]
    split <;> (try split) <;> first | rfl | rw [if_pos e2]
theorem lower_ev (s : ByteArray) (hn : s.size ≤ 140737488355328) : Ev (fun k => doorkeeperref02_Lower.f k s) (lowS s) := by
  have := lower_l0 (toL s) (by rw [toL_length]; exact hn) _ 0 rfl (Nat.zero_le _)
  rw [ofL_toL] at this
  simpa [doorkeeperref02_Lower.f, lowS, lowL] using this

/-! blanks -/
def rtrim (l : List UInt8) : List UInt8 := (l.reverse.dropWhile blankL).reverse
theorem rtrim_blank (a : List UInt8) (x : UInt8) (h : blankL x = true) : rtrim (a ++ [x]) = rtrim a := by simp [rtrim, h]
theorem rtrim_not (a : List UInt8) (x : UInt8) (h : blankL x = false) : rtrim (a ++ [x]) = a ++ [x] := by simp [rtrim, h]
theorem blank_iff (c : UInt8) : blankL c = true ↔ ((c.toNat : Int) = 32 ∨ (c.toNat : Int) = 9) := by
  rw [show ((c.toNat : Int) = 32) ↔ c = 32 from u8_eq_nat c 32 (by omega), show ((c.toNat : Int) = 9) ↔ c = 9 from u8_eq_nat c 9 (by omega)]
  simp [blankL]
/-- the part from i to j. -/
def part (l : List UInt8) (i j : Nat) : List UInt8 := (l.drop i).take (j - i)
theorem part_snoc (l : List UInt8) (i j : Nat) (h : i < j) (hj : j ≤ l.length) : part l i j = part l i (j - 1) ++ [l[j - 1]'(by omega)] := by
  unfold part
  have e : j - i = (j - 1 - i) + 1 := by omega
  rw [e, List.take_succ_eq_append_getElem (by simp; omega), List.getElem_drop]
  congr 3
  omega
theorem trim_l1 (l : List UInt8) (hn : l.length ≤ 9223372036854775807) (i : Nat) : ∀ (d j : Nat), j - i = d → i ≤ j → j ≤ l.length →
    Ev (fun k => doorkeeperref02_Trim.l1 k (ofL l) (i : Int) (j : Int)) (ofL (rtrim (part l i j))) := by
  have hend : ∀ (k j : Nat), i ≤ j → j ≤ l.length → (if 0 ≤ (i : Int) then (if (i : Int) ≤ (j : Int) then (if (j : Int) ≤ ((ofL l).size : Int) then some ((ofL l).extract ((i : Int)).toNat ((j : Int)).toNat) else none) else none) else none) = some (ofL (part l i j)) := by
    intro k j h1 h2
    rw [if_pos (by omega), if_pos (by omega), if_pos (by rw [size_ofL]; omega), Int.toNat_natCast, Int.toNat_natCast, extract_ofL]; rfl
  intro d
  induction d with
  | zero =>
    intro j hd h1 h2
    obtain rfl : i = j := by omega
    refine Ev.step (f := fun _ => some (ofL (part l i i))) (fun k => ?_) (by simpa [part, rtrim] using Ev.now (ofL []))
    simp only [doorkeeperref02_Trim.l1]
    rw [if_neg (by omega), hend k i (Nat.le_refl _) h2]
  | succ d ih =>
    intro j hd h1 h2
    have hj : j - 1 < l.length := by omega
    have hp := part_snoc l i j (by omega) h2
    cases hb : blankL l[j - 1] with
    | true =>
      have hb' := (blank_iff _).1 hb
      refine Ev.step (f := fun k => doorkeeperref02_Trim.l1 k (ofL l) (i : Int) ((j - 1 : Nat) : Int)) (fun k => ?_) (by rw [hp, rtrim_blank _ _ hb]; exact ih (j - 1) (by omega) (by omega) (by omega))
      simp only [doorkeeperref02_Trim.l1]
      rw [if_pos (by omega), wrap_pred (by omega) (by omega), if_pos (by omega), if_pos (by rw [size_ofL]; omega), bt_nat _ _ hj]
      split
      · rfl
      · rw [if_pos (by omega)]
    | false =>
      have hb' : ¬ ((l[j - 1].toNat : Int) = 32 ∨ (l[j - 1].toNat : Int) = 9) := fun h => by rw [(blank_iff _).2 h] at hb; cases hb
      refine Ev.step (f := fun _ => some (ofL (part l i j))) (fun k => ?_) (by rw [hp, rtrim_not _ _ hb]; exact Ev.now _)
      simp only [doorkeeperref02_Trim.l1]
      rw [if_pos (by omega), wrap_pred (by omega) (by omega), if_pos (by omega), if_pos (by rw [size_ofL]; omega), bt_nat _ _ hj, if_neg (by omega), if_neg (by omega), hend k j h1 h2]
theorem trim_j1 (l : List UInt8) (hn : l.length ≤ 9223372036854775807) (i : Nat) (hi : i ≤ l.length) : Ev (fun k => doorkeeperref02_Trim.j1 k (ofL l) (i : Int)) (ofL (rtrim (l.drop i))) := by
  refine Ev.step (f := fun k => doorkeeperref02_Trim.l1 k (ofL l) (i : Int) (l.length : Int)) (fun k => ?_) ?_
  · simp only [doorkeeperref02_Trim.j1]; rw [size_ofL]
  · have := trim_l1 l hn i _ l.length rfl hi (Nat.le_refl _)
    have e : part l i l.length = l.drop i := by unfold part; exact List.take_of_length_le (by simp)
    rw [e] at this
    exact this
theorem trim_l0 (l : List UInt8) (hn : l.length ≤ 9223372036854775807) : ∀ (d i : Nat), l.length - i = d → i ≤ l.length →
    Ev (fun k => doorkeeperref02_Trim.l0 k (ofL l) (i : Int)) (ofL (rtrim ((l.drop i).dropWhile blankL))) := by
  intro d
  induction d with
  | zero =>
    intro i hd hi
    obtain rfl : i = l.length := by omega
    refine Ev.step (f := fun k => doorkeeperref02_Trim.j1 k (ofL l) (l.length : Int)) (fun k => ?_) (by have := trim_j1 l hn _ hi; rw [List.drop_length] at this ⊢; exact this)
    simp only [doorkeeperref02_Trim.l0]
    rw [if_neg (by rw [size_ofL]; omega)]
  | succ d ih =>
    intro i hd hi
    have h1 : i < l.length := by omega
    have hc := drop_cons l i h1
    cases hb : blankL l[i] with
    | true =>
      have hb' := (blank_iff _).1 hb
      refine Ev.step (f := fun k => doorkeeperref02_Trim.l0 k (ofL l) ((i + 1 : Nat) : Int)) (fun k => ?_) (by rw [hc, List.dropWhile_cons, if_pos hb]; exact ih (i + 1) (by omega) (by omega))
      simp only [doorkeeperref02_Trim.l0]
      rw [if_pos (by rw [size_ofL]; omega), if_pos (by omega), bt_nat _ _ h1, wrap_succ h1 hn]
      split
      · rfl
      · rw [if_pos (by omega)]
    | false =>
      have hb' : ¬ ((l[i].toNat : Int) = 32 ∨ (l[i].toNat : Int) = 9) := fun h => by rw [(blank_iff _).2 h] at hb; cases hb
      refine Ev.step (f := fun k => doorkeeperref02_Trim.j1 k (ofL l) (i : Int)) (fun k => ?_) (by rw [hc, List.dropWhile_cons, if_neg (by simp [hb]), ← hc]; exact trim_j1 l hn i hi)
      simp only [doorkeeperref02_Trim.l0]
      rw [if_pos (by rw [size_ofL]; omega), if_pos (by omega), bt_nat _ _ h1, if_neg (by omega), if_neg (by omega)]
def trimS (s : ByteArray) : ByteArray := ofL (trimL (toL s))
theorem trim_ev (s : ByteArray) (hn : s.size ≤ 9223372036854775807) : Ev (fun k => doorkeeperref02_Trim.f k s) (trimS s) := by
  have := trim_l0 (toL s) (by rw [toL_length]; exact hn) _ 0 rfl (Nat.zero_le _)
  rw [ofL_toL] at this
  simpa [doorkeeperref02_Trim.f, trimS, trimL, rtrim] using this

end Go.Proofs.YthilbpgkhjchcaaDoor.CRef
end

section
namespace Go.Proofs.YthilbpgkhjchcaaDoor.XSeq
open Go Go.RowKit Go.Shelf

/-- The block of the row that the variable in box b holds. -/
def xrow (b : Option Nat) (W : World) : Option Nat :=
  match b with
  | none => none
  | some k => match W.cell? ⟨k, 0, none⟩ with
    | some v => v.ownBlock
    | none => none

theorem xrow_none (W : World) : xrow none W = none := rfl
theorem xrow_of_block {b : Option Nat} {W W' : World} (h : ∀ k, b = some k → W'.heap[k]? = W.heap[k]?) : xrow b W' = xrow b W := by
  cases b with
  | none => rfl
  | some k =>
    have : W'.cell? ⟨k, 0, none⟩ = W.cell? ⟨k, 0, none⟩ := World.cell?_of_block (h k rfl)
    simp only [xrow, this]
theorem xrow_boxed {W : World} {k : Nat} {t : TypeId} {v : Value} (h : Boxed W k t v) : xrow (some k) W = v.ownBlock := by
  simp only [xrow, h.cell]

/-- What a round keeps: all that lay, but for the blocks of M and the row of the variable in box b. -/
structure KpX (M : Nat → Prop) (b : Option Nat) (X Y : World) : Prop where
  size : X.heap.size ≤ Y.heap.size
  block : ∀ k, k < X.heap.size → ¬ M k → some k ≠ xrow b X → Y.heap[k]? = X.heap[k]?
  row : xrow b Y = xrow b X ∨ ∀ r, xrow b Y = some r → X.heap.size ≤ r

theorem KpX.refl (M : Nat → Prop) (b : Option Nat) (X : World) : KpX M b X X := ⟨Nat.le_refl _, fun _ _ _ _ => rfl, .inl rfl⟩
theorem KpX.ne {M : Nat → Prop} {b : Option Nat} {X Y : World} (h : KpX M b X Y) {k : Nat} (hk : k < X.heap.size) (hr : some k ≠ xrow b X) : some k ≠ xrow b Y := by
  rcases h.row with e | e
  · rw [e]; exact hr
  · intro e'
    have := e k e'.symm
    omega
theorem KpX.boxed {M : Nat → Prop} {b : Option Nat} {X Y : World} (h : KpX M b X Y) {k : Nat} {t : TypeId} {v : Value} (hb : Boxed X k t v) (hM : ¬ M k) (hr : some k ≠ xrow b X) : Boxed Y k t v :=
  (h.block k hb.lt hM hr).trans hb
theorem KpX.trans {M : Nat → Prop} {b : Option Nat} {X Y Z : World} (h : KpX M b X Y) (g : KpX M b Y Z) : KpX M b X Z := by
  refine ⟨Nat.le_trans h.size g.size, fun k hk hm hr => ?_, ?_⟩
  · exact (g.block k (Nat.lt_of_lt_of_le hk h.size) hm (h.ne hk hr)).trans (h.block k hk hm hr)
  · rcases g.row with e | e
    · rw [e]; exact h.row
    · exact .inr fun r hr => Nat.le_trans h.size (e r hr)
theorem KpX.weaken {M M' : Nat → Prop} {b : Option Nat} {X Y : World} (h : KpX M b X Y) (hm : ∀ k, M k → M' k) : KpX M' b X Y :=
  ⟨h.size, fun k hk hn hr => h.block k hk (fun e => hn (hm k e)) hr, h.row⟩
/-- A round that turns nothing but blocks of M (and lays new ones), the box b not among what it turns. -/
theorem KpX.of_blocks {M : Nat → Prop} {b : Option Nat} {X Y : World} (hs : X.heap.size ≤ Y.heap.size) (h : ∀ k, k < X.heap.size → ¬ M k → Y.heap[k]? = X.heap[k]?)
    (hb : ∀ k, b = some k → Y.heap[k]? = X.heap[k]?) : KpX M b X Y := ⟨hs, fun k hk hm _ => h k hk hm, .inl (xrow_of_block hb)⟩
theorem KpX.putObj {M : Nat → Prop} {b : Option Nat} {X : World} {l : Nat} (o : Obj) (hl : M l) (hb : b ≠ some l) : KpX M b X (X.putObj l o) :=
  .of_blocks (by simp) (fun k _ hm => World.putObj_heap_other (fun e => hm (by rw [e]; exact hl))) (fun k e => World.putObj_heap_other (fun e' => hb (by rw [e, e'])))
theorem KpX.alloc (M : Nat → Prop) {b : Option Nat} {X : World} (o : Obj) (hb : ∀ k, b = some k → k < X.heap.size) : KpX M b X (X.alloc o) :=
  .of_blocks (by simp) (fun k hk _ => Below.heap_alloc X o k hk) (fun k e => Below.heap_alloc X o k (hb k e))
theorem KpX.below {M : Nat → Prop} {b : Option Nat} {X Y : World} (h : Below X.heap.size X Y) (hb : ∀ k, b = some k → k < X.heap.size) : KpX M b X Y :=
  .of_blocks h.size (fun k hk _ => h.block k hk) (fun k e => h.block k (hb k e))
theorem KpX.setCell {M : Nat → Prop} {b : Option Nat} {X : World} {k : Nat} (u : Value) (hl : M k) (hb : b ≠ some k) : KpX M b X (X.setCell ⟨k, 0, none⟩ u) :=
  .of_blocks (grownBy_setCell' X k u).size (fun j hj hm => (grownBy_setCell' X k u).block j hj (fun e => hm (by cases e; exact hl)))
    (fun j e => Below.heap_setCell X ⟨k, 0, none⟩ u j (fun e' => hb (by rw [e]; exact congrArg some e')))

/-- The invariant abides the iterator's steps: new blocks; a turn of a block from B on that is none of M and not the row of box b. -/
def AbX {β : Type} (M : Nat → Prop) (b : Option Nat) (B : Nat) (J : β → World → Prop) : Prop :=
  ∀ s W W' row, J s W → W.grownBy W' row → (∀ r, row = some r → B ≤ r ∧ ¬ M r ∧ some r ≠ xrow b W) → J s W'

theorem AbX.alloc {β : Type} {M : Nat → Prop} {b : Option Nat} {B : Nat} {J : β → World → Prop} (h : AbX M b B J) {s : β} {W : World} (o : Obj) (hs : J s W) : J s (W.alloc o) :=
  h s W _ none hs (World.grownBy_alloc W o none) (fun r e => by cases e)
theorem AbX.putObj {β : Type} {M : Nat → Prop} {b : Option Nat} {B : Nat} {J : β → World → Prop} (h : AbX M b B J) {s : β} {W : World} {l : Nat} (o : Obj) (hs : J s W) (hB : B ≤ l) (hM : ¬ M l) (hr : some l ≠ xrow b W) : J s (W.putObj l o) :=
  h s W _ (some l) hs (grownBy_putObj' W l o) (fun r e => by cases e; exact ⟨hB, hM, hr⟩)
theorem AbX.setCell {β : Type} {M : Nat → Prop} {b : Option Nat} {B : Nat} {J : β → World → Prop} (h : AbX M b B J) {s : β} {W : World} {l : Nat} (u : Value) (hs : J s W) (hB : B ≤ l) (hM : ¬ M l) (hr : some l ≠ xrow b W) : J s (W.setCell ⟨l, 0, none⟩ u) :=
  h s W _ (some l) hs (grownBy_setCell' W l u) (fun r e => by cases e; exact ⟨hB, hM, hr⟩)
theorem AbX.below {β : Type} {M : Nat → Prop} {b : Option Nat} {B : Nat} {J : β → World → Prop} (h : AbX M b B J) {s : β} {W W' : World} (hs : J s W) (hb : Below W.heap.size W W') : J s W' :=
  h s W _ none hs ⟨hb.os, hb.tape, hb.output, hb.size, fun k hk _ => hb.block k hk⟩ (fun r e => by cases e)
theorem AbX.weaken {β : Type} {M M' : Nat → Prop} {b : Option Nat} {B B' : Nat} {J : β → World → Prop} (h : AbX M b B J) (hM : ∀ k, B' ≤ k → M k → M' k) (hB : B ≤ B') : AbX M' b B' J :=
  fun s W W' row hs hg hr => h s W W' row hs hg (fun r e => ⟨Nat.le_trans hB (hr r e).1, fun hm => (hr r e).2.1 (hM r (hr r e).1 hm), (hr r e).2.2⟩)
theorem AbX.and {β : Type} {M : Nat → Prop} {b : Option Nat} {B : Nat} {J J' : β → World → Prop} (h : AbX M b B J) (h' : AbX M b B J') : AbX M b B (fun s W => J s W ∧ J' s W) :=
  fun s W W' row hs hg hr => ⟨h s W W' row hs.1 hg hr, h' s W W' row hs.2 hg hr⟩
theorem AbX.pure {β : Type} (M : Nat → Prop) (b : Option Nat) (B : Nat) (p : β → Prop) : AbX M b B (fun s (_ : World) => p s) := fun _ _ _ _ hs _ _ => hs
/-- 'This block lies as it lay' abides, if it is below B. -/
theorem abX_block {β : Type} (M : Nat → Prop) (b : Option Nat) {B k : Nat} (hk : k < B ∨ M k) (o : Obj) : AbX M b B (fun (_ : β) W => W.heap[k]? = some o) :=
  fun _ W W' row hs hg hr => (hg.block k (Array.getElem?_eq_some_iff.1 hs).1 (fun e => by
    obtain ⟨h1, h2, _⟩ := hr k e.symm
    rcases hk with h | h
    · omega
    · exact h2 h)).trans hs
theorem abX_below {β : Type} (M : Nat → Prop) (b : Option Nat) {B n₀ : Nat} {w₀ : World} (hn : n₀ ≤ w₀.heap.size) (hB : n₀ ≤ B) : AbX M b B (fun (_ : β) W => Below n₀ w₀ W) :=
  fun _ _ _ _ hs hg hr => hs.grown hg (Nat.le_trans hn hs.size) (fun k e => Nat.le_trans hB (hr k e).1)

/-- THE ITERATOR's CONTRACT. -/
def SeqX {α : Type} (F : Fence) (P : Program) (g : Nat) (lb : Array Value) (encs : α → Array Value) (A : α → Prop) (M : Nat → Prop) (b : Option Nat) (B : Nat) (S Sp : List α → Prop) (N : Nat) (w : World) : Prop :=
  ∀ (l : Nat) (J Jx : List α → World → Prop), AbX M b B J → AbX M b B Jx →
    (∀ pre X r, J pre X → xrow b X = some r → r < X.heap.size) → (∀ pre X, J pre X → w.heap.size ≤ X.heap.size) →
    (∀ pre x X, A x → J pre X → pre.length < N → ∀ m, YieldAt F m P l (encs x) X fun e Y =>
      (e = .returned (.bool true) ∧ J (pre ++ [x]) Y ∧ KpX M b X Y) ∨ (e = .returned (.bool false) ∧ Jx (pre ++ [x]) Y ∧ KpX M b X Y)) →
    J [] w →
    ∀ n, CallsIn F n P g (#[.func (.yield l) #[] #[]] ++ lb) w fun e Y => (∃ v, e = .returned v) ∧ ((∃ xs, S xs ∧ J xs Y) ∨ (∃ pre, Sp pre ∧ Jx pre Y))

/-- How the body of a round may be left. -/
def postX {α : Type} (M : Nat → Prop) (b : Option Nat) (I : List α → World → Prop) (Ix : Code → List α → World → Prop) (xs : List α) (W : World) : Exit → Act → World → Prop
  | .normal, _, W' => KpX M b W W' ∧ I xs W'
  | .ret, _, W' => KpX M b W W' ∧ Ix .ret xs W'
  | .exit id, _, W' => KpX M b W W' ∧ Ix (.exit id) xs W'
  | .goto t, _, W' => KpX M b W W' ∧ Ix (.goto t) xs W'
  | .panic _, _, _ => False
  | .outgrown, _, _ => False

/-- The caller's blocks, and the loop's own two. -/
def withLoop (M : Nat → Prop) (w : World) : Nat → Prop := fun k => M k ∨ k = w.heap.size ∨ k = w.heap.size + 1

variable {F : Fence} {P : Program}

theorem wpIn_rangeX {α : Type} {n : Nat} {g : Operand} {ps : Array Tmp} {assign body : Code} {Q : Exit → Act → World → Prop} {a : Act} {w : World}
    (hro : F.round = none) (hdep : F.depth = none) {gf : Nat} {lb : Array Value} (hg : a.eval g = .func (.func gf) #[] lb) (hFg : F.fn gf) (eg : ∀ args w, (callFunc gf args).run P w = .ok (.enter gf args) w)
    {encs : α → Array Value} {A : α → Prop} {M : Nat → Prop} {b : Option Nat} {B : Nat} {S Sp : List α → Prop} {N : Nat}
    (hseq' : ∀ W1, Below w.heap.size w W1 → W1.heap.size = w.heap.size + 2 → SeqX F P gf lb encs A (withLoop M w) b B S Sp N W1)
    (hps : ∀ x, (encs x).size = ps.size) (hM : ∀ k, M k → k < w.heap.size) (hbM : ∀ k, b = some k → M k) (hB : B ≤ w.heap.size)
    (I : List α → World → Prop) (Ix : Code → List α → World → Prop) (hI : AbX M b B I) (hIx : ∀ c, AbX M b B (Ix c))
    (hrow : ∀ pre X r, I pre X → xrow b X = some r → r < X.heap.size) (h0 : I [] w) (a₁ : α → Act)
    (hassign : ∀ (m l : Nat) (x : α) (W : World) (K : Act → World → Prop), K (a₁ x) W →
      assign.wpIn (F.inRound l) m P (Exit.then K (fun _ _ _ => False)) { tmps := (ps.zip (encs x)).foldl (fun t (p, v) => t.setIfInBounds p v) a.tmps, defers := [] } W)
    (hbody : ∀ (m l : Nat) (pre : List α) (x : α) (W : World), A x → w.heap.size + 1 < W.heap.size → I pre W → pre.length < N → body.wpIn (F.inRound l) m P (postX M b I Ix (pre ++ [x]) W) (a₁ x) W)
    (hdone : ∀ (xs : List α) (W : World), w.heap.size < W.heap.size → S xs → I xs W → W.heap[w.heap.size]? = some (.deferred (some [])) → some w.heap.size ≠ xrow b W → Q .normal { a with defers := { target := .collected w.heap.size, args := #[] } :: a.defers } W)
    (hstop : ∀ (c : Code) (pre : List α) (W : World), w.heap.size < W.heap.size → Sp pre → Ix c pre W → W.heap[w.heap.size]? = some (.deferred (some [])) → some w.heap.size ≠ xrow b W → c.wpIn F n P Q { a with defers := { target := .collected w.heap.size, args := #[] } :: a.defers } W) :
    (Code.rangeFunc g ps assign body).wpIn F n P Q a w := by
  refine wpIn_rangeFunc ?_
  intro fn hfn
  rw [hro]
  obtain ⟨rec, hrec⟩ : ∃ rec : LoopState → Option Code → Loop, rec = fun st pe => { state := st, pending := pe, fn, tmps := a.tmps, params := ps, assign, body, defers := w.heap.size } := ⟨_, rfl⟩
  obtain ⟨W1, hW1⟩ : ∃ W1, (w.alloc (.deferred (some []))).alloc (.loop (rec .ready none)) = W1 := ⟨_, rfl⟩
  have hL1 : W1.heap[w.heap.size + 1]? = some (.loop (rec .ready none)) := by
    rw [← hW1]; have := World.alloc_heap_new (w.alloc (.deferred (some []))) (.loop (rec .ready none)); rwa [World.size_alloc] at this
  have hK1 : W1.heap[w.heap.size]? = some (.deferred (some [])) := by
    rw [← hW1]; exact (Below.heap_alloc _ _ _ (by simp)).trans (World.alloc_heap_new w _)
  have hI1 : I [] W1 := by rw [← hW1]; exact hI.alloc _ (hI.alloc _ h0)
  have hb1 : Below w.heap.size w W1 := by
    rw [← hW1]; exact ((Below.refl _ w).alloc (Nat.le_refl _) _).alloc (by simp) _
  have hs1 : W1.heap.size = w.heap.size + 2 := by rw [← hW1]; simp
  have hrow1 : xrow b W1 = xrow b w := xrow_of_block (fun k e => hb1.block k (hM k (hbM k e)))
  have hnb : ∀ k, w.heap.size ≤ k → b ≠ some k := fun k hk e => by have := hM k (hbM k e); omega
  have hD0 : some w.heap.size ≠ xrow b W1 := fun e => by rw [hrow1] at e; have := hrow _ _ _ h0 e.symm; omega
  have hl0 : some (w.heap.size + 1) ≠ xrow b W1 := fun e => by rw [hrow1] at e; have := hrow _ _ _ h0 e.symm; omega
  refine ⟨w.heap.size + 1, [{ target := .collected w.heap.size, args := #[] }], W1, { target := .fn (.func gf) lb, args := #[.func (.yield (w.heap.size + 1)) #[] #[]] }, W1, gf,
    #[.func (.yield (w.heap.size + 1)) #[] #[]] ++ lb, W1, ?_, ?_, ?_, ?_, (fun h => by rw [hdep] at h; cases h), ?_⟩
  · rw [← hW1, hrec]; exact run_enterLoop_outer _ _ _ _ _
  · simp only [resolve, hg]
    simp [go_sem]
  · intro f' hf'; simp [Target.leads] at hf'; subst hf'; exact hFg
  · simp [invoke, go_sem, eg]
  · have hnM : ∀ k, w.heap.size ≤ k → ¬ M k := fun k hk e => by have := hM k e; omega
    have hup : ∀ {A : World} {row : Option Nat}, (∀ r, row = some r → B ≤ r ∧ ¬ withLoop M w r ∧ some r ≠ xrow b A) → (∀ r, row = some r → B ≤ r ∧ ¬ M r ∧ some r ≠ xrow b A) :=
      fun hr r e => ⟨(hr r e).1, fun hm => (hr r e).2.1 (.inl hm), (hr r e).2.2⟩
    have hstay : ∀ {A A' : World} {row : Option Nat}, A.grownBy A' row → (∀ r, row = some r → B ≤ r ∧ ¬ withLoop M w r ∧ some r ≠ xrow b A) →
        ∀ {k : Nat} {o : Obj}, withLoop M w k → A.heap[k]? = some o → A'.heap[k]? = some o := fun hg' hr k o hk ho =>
      (hg'.block k (Array.getElem?_eq_some_iff.1 ho).1 (fun e => (hr k e.symm).2.1 hk)).trans ho
    have hrowstay : ∀ {A A' : World} {row : Option Nat} {o : Obj}, A.grownBy A' row → (∀ r, row = some r → B ≤ r ∧ ¬ withLoop M w r ∧ some r ≠ xrow b A) → A.heap[w.heap.size]? = some o → xrow b A' = xrow b A := fun hg' hr ho =>
      xrow_of_block (fun k e => hg'.block k (by have := (Array.getElem?_eq_some_iff.1 ho).1; have := hM k (hbM k e); omega) (fun e' => (hr k e'.symm).2.1 (.inl (hbM k e))))
    refine (hseq' W1 hb1 hs1 (w.heap.size + 1)
      (fun pre W => I pre W ∧ W.heap[w.heap.size + 1]? = some (.loop (rec .ready none)) ∧ W.heap[w.heap.size]? = some (.deferred (some [])) ∧ some w.heap.size ≠ xrow b W ∧ some (w.heap.size + 1) ≠ xrow b W)
      (fun pre W => ∃ c, Ix c pre W ∧ W.heap[w.heap.size + 1]? = some (.loop (rec .done (some c))) ∧ W.heap[w.heap.size]? = some (.deferred (some [])) ∧ some w.heap.size ≠ xrow b W ∧ some (w.heap.size + 1) ≠ xrow b W)
      (fun s A A' row hs hg' hr => ⟨hI s A A' row hs.1 hg' (hup hr), hstay hg' hr (.inr (.inr rfl)) hs.2.1, hstay hg' hr (.inr (.inl rfl)) hs.2.2.1, by rw [hrowstay hg' hr hs.2.2.1]; exact hs.2.2.2⟩)
      (fun s A A' row hs hg' hr => by
        obtain ⟨c, hc, hl, hk, hrr⟩ := hs
        exact ⟨c, hIx c s A A' row hc hg' (hup hr), hstay hg' hr (.inr (.inr rfl)) hl, hstay hg' hr (.inr (.inl rfl)) hk, by rw [hrowstay hg' hr hk]; exact hrr⟩)
      (fun pre X r hJ hr => hrow pre X r hJ.1 hr)
      (fun pre X hJ => by have := (Array.getElem?_eq_some_iff.1 hJ.2.1).1; omega)
      ?_ ⟨hI1, hL1, hK1, hD0, hl0⟩ _).mono ?_
    · rintro pre x W hax ⟨hi, hl, hk, hd1, hd2⟩ hlen m
      have hlt : w.heap.size + 1 < W.heap.size := (Array.getElem?_eq_some_iff.1 hl).1
      have hy := run_yield (P := P) (args := encs x) hl (by rw [hrec]; exact hps x)
      rw [hrec] at hy
      refine ⟨fn, _, assign, body, hy, roundIn_of_wpIn hfn (hassign m _ x W _ ⟨_, run_beginRound hl (by rw [hrec]), ?_⟩)⟩
      obtain ⟨W2, hW2⟩ : ∃ W2, W.putObj (w.heap.size + 1) (.loop { rec .ready none with state := .busy }) = W2 := ⟨_, rfl⟩
      rw [hW2]
      have hl2 : W2.heap[w.heap.size + 1]? = some (.loop { rec .ready none with state := .busy }) := by rw [← hW2]; exact World.putObj_heap_same hlt
      have hk2 : W2.heap[w.heap.size]? = some (.deferred (some [])) := by rw [← hW2]; exact (World.putObj_heap_other (by omega)).trans hk
      have hw2 : KpX (withLoop M w) b W W2 := by rw [← hW2]; exact KpX.putObj _ (.inr (.inr rfl)) (hnb _ (by omega))
      have hi2 : I pre W2 := by rw [← hW2]; exact hI.putObj _ hi (by omega) (hnM _ (by omega)) hd2
      have hs2 : W2.heap.size = W.heap.size := by rw [← hW2]; simp
      have hr2 : xrow b W2 = xrow b W := by rw [← hW2]; exact xrow_of_block (fun k e => World.putObj_heap_other (fun e' => hnb (w.heap.size + 1) (by omega) (by rw [e, e'])))
      clear hW2
      refine wpIn_mono (hbody m _ pre x _ hax (by omega) hi2 hlen) ?_
      have fin : ∀ (jump : Option Code) (W3 : World), KpX M b W2 W3 →
          (Instr.endRound (w.heap.size + 1) jump).run P W3 = .ok (.bool jump.isNone) (W3.putObj (w.heap.size + 1) (.loop (rec (if jump.isNone then .ready else .done) jump))) ∧
          (W3.putObj (w.heap.size + 1) (.loop (rec (if jump.isNone then .ready else .done) jump))).heap[w.heap.size + 1]? = some (.loop (rec (if jump.isNone then .ready else .done) jump)) ∧
          (W3.putObj (w.heap.size + 1) (.loop (rec (if jump.isNone then .ready else .done) jump))).heap[w.heap.size]? = some (.deferred (some [])) ∧
          some w.heap.size ≠ xrow b (W3.putObj (w.heap.size + 1) (.loop (rec (if jump.isNone then .ready else .done) jump))) ∧
          some (w.heap.size + 1) ≠ xrow b (W3.putObj (w.heap.size + 1) (.loop (rec (if jump.isNone then .ready else .done) jump))) ∧
          some (w.heap.size + 1) ≠ xrow b W3 ∧
          KpX (withLoop M w) b W (W3.putObj (w.heap.size + 1) (.loop (rec (if jump.isNone then .ready else .done) jump))) := fun jump W3 hk3 => by
        have hl3 : W3.heap[w.heap.size + 1]? = some (.loop { rec .ready none with state := .busy }) := (hk3.block _ (by omega) (hnM _ (by omega)) (by rw [hr2]; exact hd2)).trans hl2
        have hk3' : W3.heap[w.heap.size]? = some (.deferred (some [])) := (hk3.block _ (by omega) (hnM _ (by omega)) (by rw [hr2]; exact hd1)).trans hk2
        have hr3 : xrow b (W3.putObj (w.heap.size + 1) (.loop (rec (if jump.isNone then .ready else .done) jump))) = xrow b W3 := xrow_of_block (fun k e => World.putObj_heap_other (fun e' => hnb (w.heap.size + 1) (by omega) (by rw [e, e'])))
        have hn1 : some w.heap.size ≠ xrow b W3 := hk3.ne (by omega) (by rw [hr2]; exact hd1)
        have hn2 : some (w.heap.size + 1) ≠ xrow b W3 := hk3.ne (by omega) (by rw [hr2]; exact hd2)
        have := run_endRound (P := P) jump hl3
        rw [hrec] at this ⊢
        exact ⟨this, World.putObj_heap_same (Array.getElem?_eq_some_iff.1 hl3).1, (World.putObj_heap_other (by omega)).trans hk3', by rw [hrec] at hr3; rw [hr3]; exact hn1, by rw [hrec] at hr3; rw [hr3]; exact hn2, hn2,
          (hw2.trans (hk3.weaken (fun k e => .inl e))).trans (KpX.putObj _ (.inr (.inr rfl)) (hnb _ (by omega)))⟩
      rintro e a3 W3 hp
      cases e with
      | normal =>
        obtain ⟨hk3, hi3⟩ := hp
        obtain ⟨hr, hl4, hk4, hn1, hn2, hn3, hkp⟩ := fin none W3 hk3
        exact ⟨_, _, hr, .inl ⟨rfl, ⟨hI.putObj _ hi3 (by omega) (hnM _ (by omega)) hn3, hl4, hk4, hn1, hn2⟩, hkp⟩⟩
      | ret =>
        obtain ⟨hk3, hi3⟩ := hp
        obtain ⟨hr, hl4, hk4, hn1, hn2, hn3, hkp⟩ := fin (some .ret) W3 hk3
        exact ⟨_, _, hr, .inr ⟨rfl, ⟨.ret, (hIx _).putObj _ hi3 (by omega) (hnM _ (by omega)) hn3, hl4, hk4, hn1, hn2⟩, hkp⟩⟩
      | exit id =>
        obtain ⟨hk3, hi3⟩ := hp
        obtain ⟨hr, hl4, hk4, hn1, hn2, hn3, hkp⟩ := fin (some (.exit id)) W3 hk3
        exact ⟨_, _, hr, .inr ⟨rfl, ⟨.exit id, (hIx _).putObj _ hi3 (by omega) (hnM _ (by omega)) hn3, hl4, hk4, hn1, hn2⟩, hkp⟩⟩
      | goto t =>
        obtain ⟨hk3, hi3⟩ := hp
        obtain ⟨hr, hl4, hk4, hn1, hn2, hn3, hkp⟩ := fin (some (.goto t)) W3 hk3
        exact ⟨_, _, hr, .inr ⟨rfl, ⟨.goto t, (hIx _).putObj _ hi3 (by omega) (hnM _ (by omega)) hn3, hl4, hk4, hn1, hn2⟩, hkp⟩⟩
      | panic ch => exact hp.elim
      | outgrown => exact hp.elim
    · have hrput : ∀ (W2 : World) (o : Obj), xrow b (W2.putObj (w.heap.size + 1) o) = xrow b W2 := fun W2 o => xrow_of_block (fun k e => World.putObj_heap_other (fun e' => hnb (w.heap.size + 1) (by omega) (by rw [e, e'])))
      rintro e W2 ⟨⟨v, rfl⟩, (⟨xs, hS, hi, hl, hk, hn1, hn2⟩ | ⟨pre, hSp, c, hi, hl, hk, hn1, hn2⟩)⟩
      · exact ⟨none, _, by have := run_endLoop (P := P) hl (by rw [hrec]; simp); rw [hrec] at this; exact this, hdone xs _ (by have := (Array.getElem?_eq_some_iff.1 hk).1; simp; omega) hS (hI.putObj _ hi (by omega) (hnM _ (by omega)) hn2) ((World.putObj_heap_other (by omega)).trans hk) (by rw [hrput]; exact hn1)⟩
      · exact ⟨some c, _, by have := run_endLoop (P := P) hl (by rw [hrec]; simp); rw [hrec] at this; exact this, hstop c pre _ (by have := (Array.getElem?_eq_some_iff.1 hk).1; simp; omega) hSp ((hIx c).putObj _ hi (by omega) (hnM _ (by omega)) hn2) ((World.putObj_heap_other (by omega)).trans hk) (by rw [hrput]; exact hn1)⟩

/-- Block k lies there, is none of M and not the row of box b. -/
structure Kept (M : Nat → Prop) (b : Option Nat) (k : Nat) (o : Obj) (W : World) : Prop where
  obj : W.heap[k]? = some o
  notM : ¬ M k
  ne : some k ≠ xrow b W
  box : ∀ j, b = some j → j < W.heap.size

theorem Kept.lt {M : Nat → Prop} {b : Option Nat} {k : Nat} {o : Obj} {W : World} (h : Kept M b k o W) : k < W.heap.size := (Array.getElem?_eq_some_iff.1 h.obj).1
theorem Kept.boxed {M : Nat → Prop} {b : Option Nat} {k : Nat} {t : TypeId} {v : Value} {W : World} (h : Kept M b k (.cells #[v] t (0, 0)) W) : Boxed W k t v := h.obj
theorem KpX.kept {M : Nat → Prop} {b : Option Nat} {X Y : World} (h : KpX M b X Y) {k : Nat} {o : Obj} (hk : Kept M b k o X) : Kept M b k o Y :=
  ⟨(h.block k hk.lt hk.notM hk.ne).trans hk.obj, hk.notM, h.ne hk.lt hk.ne, fun j e => Nat.lt_of_lt_of_le (hk.box j e) h.size⟩
theorem Kept.grown {M : Nat → Prop} {b : Option Nat} {k : Nat} {o : Obj} {W W' : World} {row : Option Nat} (hk : Kept M b k o W) (hbM : ∀ j, b = some j → M j) (hg : W.grownBy W' row) (hr : ∀ r, row = some r → r ≠ k ∧ ¬ M r) : Kept M b k o W' := by
  have e : xrow b W' = xrow b W := xrow_of_block (fun j e => hg.block j (hk.box j e) (fun e' => (hr j e'.symm).2 (hbM j e)))
  exact ⟨(hg.block k hk.lt (fun e' => (hr k e'.symm).1 rfl)).trans hk.obj, hk.notM, by rw [e]; exact hk.ne, fun j e => Nat.lt_of_lt_of_le (hk.box j e) hg.size⟩
theorem Kept.below {M : Nat → Prop} {b : Option Nat} {k : Nat} {o : Obj} {W W' : World} (hk : Kept M b k o W) (hb : Below W.heap.size W W') : Kept M b k o W' := by
  have e : xrow b W' = xrow b W := xrow_of_block (fun j e => hb.block j (hk.box j e))
  exact ⟨(hb.block k hk.lt).trans hk.obj, hk.notM, by rw [e]; exact hk.ne, fun j e => Nat.lt_of_lt_of_le (hk.box j e) hb.size⟩
theorem Kept.alloc {M : Nat → Prop} {b : Option Nat} {k : Nat} {o : Obj} {W : World} (hk : Kept M b k o W) (o' : Obj) : Kept M b k o (W.alloc o') :=
  hk.below ((Below.refl _ W).alloc (Nat.le_refl _) _)
theorem abX_kept {β : Type} {M : Nat → Prop} {b : Option Nat} {B k : Nat} (hbM : ∀ j, b = some j → M j) (hk : k < B) (o : Obj) : AbX M b B (fun (_ : β) W => Kept M b k o W) :=
  fun _ W W' row hs hg hr => hs.grown hbM hg (fun r e => ⟨fun e' => by have := (hr r e).1; omega, (hr r e).2.1⟩)
/-- The marks of the loops over iterators that the activation has been through. -/
def Marks (M : Nat → Prop) (b : Option Nat) (ds : List Deferred) (W : World) : Prop :=
  ∃ rs : List Nat, ds = rs.map (fun r => { target := .collected r, args := #[] }) ∧ rs.Nodup ∧ ∀ r ∈ rs, Kept M b r (.deferred (some [])) W
theorem Marks.nil (M : Nat → Prop) (b : Option Nat) (W : World) : Marks M b [] W := ⟨[], rfl, by simp, by simp⟩
theorem KpX.marks {M : Nat → Prop} {b : Option Nat} {X Y : World} (h : KpX M b X Y) {ds : List Deferred} (hm : Marks M b ds X) : Marks M b ds Y := by
  obtain ⟨rs, h1, h2, h3⟩ := hm
  exact ⟨rs, h1, h2, fun r hr => h.kept (h3 r hr)⟩
theorem Marks.below {M : Nat → Prop} {b : Option Nat} {W W' : World} {ds : List Deferred} (hm : Marks M b ds W) (hb : Below W.heap.size W W') : Marks M b ds W' := by
  obtain ⟨rs, h1, h2, h3⟩ := hm
  exact ⟨rs, h1, h2, fun r hr => (h3 r hr).below hb⟩
/-- 'These marks' abides, where all lie below B. -/
theorem abX_marks {β : Type} {M : Nat → Prop} {b : Option Nat} {B : Nat} (hbM : ∀ j, b = some j → M j) {ds : List Deferred} (hB : ∀ r, { target := Target.collected r, args := #[] } ∈ ds → r < B) : AbX M b B (fun (_ : β) W => Marks M b ds W) := by
  rintro _ W W' row ⟨rs, h1, h2, h3⟩ hg hr
  refine ⟨rs, h1, h2, fun r hr' => (h3 r hr').grown hbM hg (fun j e => ⟨fun e' => ?_, (hr j e).2.1⟩)⟩
  have h4 := hB r (by rw [h1]; exact List.mem_map.2 ⟨r, hr', rfl⟩)
  have h5 := (hr j e).1
  omega
theorem Marks.lt {M : Nat → Prop} {b : Option Nat} {W : World} {ds : List Deferred} (hm : Marks M b ds W) {r : Nat} (h : { target := Target.collected r, args := #[] } ∈ ds) : r < W.heap.size := by
  obtain ⟨rs, h1, _, h3⟩ := hm
  rw [h1] at h
  obtain ⟨r', hr', e⟩ := List.mem_map.1 h
  have : r' = r := by simpa using e
  subst this
  exact (h3 _ hr').lt
theorem Marks.push {M : Nat → Prop} {b : Option Nat} {W : World} {ds : List Deferred} (hm : Marks M b ds W) {r : Nat} (hk : Kept M b r (.deferred (some [])) W) (hnew : ∀ r', { target := Target.collected r', args := #[] } ∈ ds → r' ≠ r) :
    Marks M b ({ target := .collected r, args := #[] } :: ds) W := by
  obtain ⟨rs, h1, h2, h3⟩ := hm
  refine ⟨r :: rs, by simp [h1], List.nodup_cons.2 ⟨fun h => hnew r (by rw [h1]; exact List.mem_map.2 ⟨r, h, rfl⟩) rfl, h2⟩, fun q hq => ?_⟩
  rcases List.mem_cons.1 hq with rfl | hq
  · exact hk
  · exact h3 q hq

/-- A function without results leaves over its marks. -/
theorem leaves_marks {n : Nat} {fn : Func} {tmps : Array Value} {R : Ending → World → Prop} {M : Nat → Prop} {b : Option Nat} {B : Nat} (hbM : ∀ j, b = some j → M j) (J : Unit → World → Prop) (hJ : AbX M b B J)
    (hend : ∀ W, J () W → ∃ v, (results fn tmps).run P W = .ok v W ∧ R (.returned v) W) : ∀ (ds : List Deferred) (W : World), Marks M b ds W → (∀ r, { target := Target.collected r, args := #[] } ∈ ds → B ≤ r) → J () W → LeavesInM F n P fn tmps R ds .returning W := by
  intro ds
  induction ds with
  | nil => intro W _ _ h; exact hend W h
  | cons d ds ih =>
    rintro W ⟨rs, h1, h2, h3⟩ hB hj
    cases rs with
    | nil => simp at h1
    | cons r rs =>
      simp only [List.map_cons, List.cons.injEq] at h1
      obtain ⟨rfl, h1⟩ := h1
      obtain ⟨hr, h2⟩ := List.nodup_cons.1 h2
      have hk := h3 r (by simp)
      refine ⟨by simp, .inl ⟨r, _, rfl, run_takeDeferred hk.obj, ?_⟩⟩
      have hg := grownBy_putObj' W r (.deferred none)
      refine ih _ ⟨rs, h1, h2, fun q hq => (h3 q (by simp [hq])).grown hbM hg (fun j e => ?_)⟩ (fun q hq => hB q (List.mem_cons_of_mem _ hq)) (hJ.putObj _ hj (hB r (by simp)) hk.notM hk.ne)
      cases e
      exact ⟨fun e => hr (by rw [e]; exact hq), hk.notM⟩

/-- All that was kept in w is kept. -/
def KeepAll (M : Nat → Prop) (b : Option Nat) (w W : World) : Prop := ∀ k o, Kept M b k o w → Kept M b k o W
theorem KeepAll.refl (M : Nat → Prop) (b : Option Nat) (w : World) : KeepAll M b w w := fun _ _ h => h
theorem KeepAll.trans {M : Nat → Prop} {b : Option Nat} {X Y Z : World} (h : KeepAll M b X Y) (g : KeepAll M b Y Z) : KeepAll M b X Z := fun k o hk => g k o (h k o hk)
theorem KeepAll.of_below {M : Nat → Prop} {b : Option Nat} {X Y : World} (h : Below X.heap.size X Y) : KeepAll M b X Y := fun _ _ hk => hk.below h
theorem KpX.keepAll {M : Nat → Prop} {b : Option Nat} {X Y : World} (h : KpX M b X Y) : KeepAll M b X Y := fun _ _ hk => h.kept hk
theorem abX_keepAll {β : Type} {M : Nat → Prop} {b : Option Nat} {B : Nat} (hbM : ∀ j, b = some j → M j) {w : World} (hB : w.heap.size ≤ B) : AbX M b B (fun (_ : β) W => KeepAll M b w W) :=
  fun _ W W' row hs hg hr k o hk => (hs k o hk).grown hbM hg (fun r e => ⟨fun e' => by have := (hr r e).1; have := hk.lt; omega, (hr r e).2.1⟩)
theorem abX_sized {β : Type} (M : Nat → Prop) (b : Option Nat) (B n : Nat) : AbX M b B (fun (_ : β) W => n ≤ W.heap.size) := fun _ _ _ _ hs hg _ => Nat.le_trans hs hg.size

/-- 'out = append(out, ..)' in a round: what the round keeps. -/
theorem KpX.appended {M : Nat → Prop} {W w1 : World} {n₀ Bx : Nat} {t e : TypeId} {size : Nat} {v v' : Value} {k : Nat} {xs : List Value} {tmp : Obj}
    (hv : Boxed W Bx t v) (hte : t ≠ e) (hrow : W.ownsRow n₀ e size v k xs) (hgrow : (W.alloc tmp).grownBy w1 v.ownBlock)
    (hat : v'.ownBlock = v.ownBlock ∨ v'.ownBlock = some (W.alloc tmp).heap.size) (hM : M Bx) : KpX M (some Bx) W (w1.setCell ⟨Bx, 0, none⟩ v') := by
  have hv1 : Boxed w1 Bx t v := (hv.alloc tmp).kept hgrow (hv.not_row hte hrow)
  have hsz : W.heap.size + 1 ≤ w1.heap.size := by have := hgrow.size; simpa using this
  refine ⟨Nat.le_trans (by omega) (grownBy_setCell' w1 Bx v').size, fun j hj hm hr => ?_, ?_⟩
  · rw [xrow_boxed hv] at hr
    rw [(grownBy_setCell' w1 Bx v').block j (by omega) (fun e => hm (by cases e; exact hM)), hgrow.block j (by simp; omega) hr]
    exact Below.heap_alloc W tmp j hj
  · rw [xrow_boxed (hv1.set v'), xrow_boxed hv]
    rcases hat with h | h
    · exact .inl h
    · refine .inr fun r hr => ?_
      rw [h] at hr
      simp at hr
      omega
/-- 'Box Bx holds a slice that owns f s' abides. -/
theorem abX_holdsRow {β : Type} {M : Nat → Prop} {B Bx n₀ : Nat} {t e : TypeId} {size : Nat} (hM : M Bx) (k : β → Nat) (f : β → List Value) (G : β → Value → Prop) :
    AbX M (some Bx) B (fun s W => ∃ v, Boxed W Bx t v ∧ W.ownsRow n₀ e size v (k s) (f s) ∧ G s v) := by
  rintro s W W' row ⟨v, hv, hr, hG⟩ hg hrow
  refine ⟨v, hv.kept hg (fun e' => (hrow Bx e'.symm).2.1 hM), hr.kept hg ?_, hG⟩
  cases h : v.ownBlock with
  | none => exact .inl rfl
  | some r =>
    refine .inr fun e' => ?_
    have := (hrow r e'.symm).2.2
    rw [xrow_boxed hv] at this
    exact this h.symm
theorem ownsRow_lt {W : World} {base : Nat} {e : TypeId} {size : Nat} {v : Value} {k : Nat} {xs : List Value} (h : W.ownsRow base e size v k xs) {r : Nat} (hr : v.ownBlock = some r) : base ≤ r ∧ r < W.heap.size := by
  rcases h.2 with ⟨rfl, _⟩ | ⟨g, cap, cur, rfl, hb, hgb, _⟩
  · simp [Value.ownBlock] at hr
  · obtain rfl : g = r := by simpa [Value.ownBlock] using hr
    exact ⟨hb, (Array.getElem?_eq_some_iff.1 hgb).1⟩

/-- append onto a slice of the call's own, as one step of a region that draws its order. -/
theorem stepIn_append_own_at {n : Nat} {ops : Array Oper} {o : Oper} {a : Act} {Q : Exit → Act → World → Prop} {K : Act → World → Prop} {E : Prop} (w : World) (hgd : o.guard = none) (s x : Operand) (t : TypeId)
    (ho : o.op = .call { callee := .builtin .append, args := #[s, x], argTypes := #[t, t] })
    (base : Nat) (e : TypeId) (i : TypeInfo) (z : Value) (size bytes : Nat) (ht : P.underlying t = some (.slice e)) (hi : P.info? e = some i) (hz : i.zero = some z)
    (hsize : i.size = size) (hby : i.bytes = bytes) (hzs : z.cells.size = size) (hsz : 0 < size)
    (v : Value) (k : Nat) (xs : List Value) (hs : a.eval s = v) (hown : w.ownsRow base e size v k xs)
    (ad : Addr) (m c : Nat) (news : List Value) (hx : a.eval x = .slice (some ad) m c) (hl : news.length = m * size) (hnews : ∀ j u, news[j]? = some u → w.cell? (ad.add j) = some u) (h1 : ∀ u ∈ news, u.oneCell' = true)
    (h63 : k + m ≤ maxLen) (hbytes : (k + m) * bytes ≤ 140737488355328) (hbase : base ≤ w.heap.size)
    (h : ∀ v' w', w'.ownsRow base e size v' (k + m) (xs ++ news) → w.grownBy w' v.ownBlock → (v' = .slice none 0 0 ↔ v = .slice none 0 0 ∧ m = 0) → (v'.ownBlock = v.ownBlock ∨ v'.ownBlock = some w.heap.size) → K (a.put o.dst v') w') :
    if Region.wanted o (yielded ops a.tmps) = true then Oper.wpIn F n P o a w K Q else E := by
  rw [if_pos (by simp [Region.wanted, hgd])]
  obtain ⟨v', w', hr, h2, h3, h4, h5⟩ := run_append_own_at (P := P) w base t o.type e i z size bytes ht hi hz hsize hby hzs hsz v k xs hown ad m c news hl hnews h1 h63 hbytes hbase
  unfold Oper.wpIn
  refine ⟨?_, ?_⟩
  · simp [Oper.about, ho, resolve, Target.leads, Sem.run_pure]
  · rw [Oper.semAt_plain F _ _ (by rw [ho]; intro c hc'; cases hc')]
    simp [execOp, ho, resolve, invoke, builtin, hs, hx, hr, Result.andThen]
    exact h v' w' h2 h3 h4 h5

end Go.Proofs.YthilbpgkhjchcaaDoor.XSeq
end
