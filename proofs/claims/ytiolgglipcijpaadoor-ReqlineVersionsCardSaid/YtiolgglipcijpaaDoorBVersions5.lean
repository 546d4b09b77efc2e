/- What the reference of request lines gives. What the laws of request lines share: they are awake. What the laws of request lines share: they are awake; the two parsers agree; the text of a line. Lines with other versions, on what the functions give. The walk of the law 'ReqlineVersions': the machine's call returns true for every input. What the listed package-level variables hold, read out of the condition of a row; a world that meets it. The law 'ReqlineVersions' returns true for every input, and each argument reads afterwards as it read before. Conditions: none but the row's own cells (what the listed package-level variables hold is tied to the program's text by the card). -/
import Derived.Test.YtiolgglipcijpaaDoorBVersions3
import Derived.Test.YtiolgglipcijpaaDoorBVersions0
import Derived.Test.YtiolgglipcijpaaDoorBVersions4
import Derived.Test.YtiolgglipcijpaaDoorBVersions1
import Derived.DataShut
import Derived.Deep.QuietTactic
import Derived.BigQuiet
import Derived.Test.YtiolgglipcijpaaDoorBVersions2
import Derived.Test.YtiolgglipcijpaaDoorRows
import Derived.ProofKit
import Derived.OpenShut
import Derived.LaidMore
import Derived.LaidSub
import Derived.Lay
import Derived.Handed
import Derived.HandedShaped
import Derived.Shelf.Vars
import Derived.Stop.Joined
import Derived.Test.YtiolgglipcijpaaDoorCards
import Derived.Test.YtiolgglipcijpaaDoorTie
import Derived.WalkKit
import Derived.ShutString
import Derived.ChangeOld
import Derived.Below
import Derived.SizedLaws
import Derived.SliceStrings
import Derived.SevenTiedAt
set_option linter.unusedVariables false
set_option linter.unusedSimpArgs false

section
namespace Go.Proofs.YtiolgglipcijpaaDoor.QRef
open Go Go.RowKit Go.Proofs.YtiolgglipcijpaaDoorW.PrintWords Go.Proofs.YtiolgglipcijpaaDoor.PB Go.Proofs.YtiolgglipcijpaaDoor.P Go.Proofs.YtiolgglipcijpaaDoor.LSpec Go.Proofs.YtiolgglipcijpaaDoor.RSpec
open Go.Proofs.YtiolgglipcijpaaDoor.ROct (tokB visB isTok isVis)

theorem wrap_succ {i n : Nat} (h : i < n) (hn : n ≤ 9223372036854775807) : wrap64 ((i : Int) + 1) = ((i + 1 : Nat) : Int) := by
  rw [wrap64_ok (by omega) (by omega)]; omega
theorem wrap_pred {i : Nat} (h : 0 < i) (hn : i ≤ 9223372036854775807) : wrap64 ((i : Int) - 1) = ((i - 1 : Nat) : Int) := by
  rw [wrap64_ok (by omega) (by omega)]; omega
theorem rd_nat (l : List ByteArray) (i : Nat) (h : i < l.length) : rdOf ByteArray.empty l (i : Int) = l[i] := by
  rw [rdOf, Int.toNat_natCast, List.getD_eq_getElem?_getD, List.getElem?_eq_getElem h]; rfl
theorem bt_nat (l : List UInt8) (i : Nat) (h : i < l.length) : bt (ofL l) (i : Int) = (l[i].toNat : Int) := by
  rw [bt_ofL, Int.toNat_natCast, List.getElem?_eq_getElem h]; rfl
theorem drop_cons {α : Type} (l : List α) (i : Nat) (h : i < l.length) : l.drop i = l[i] :: l.drop (i + 1) := List.drop_eq_getElem_cons h

/-! tokens -/
theorem class2_fin : ∀ n : Fin 256, doorkeeperref02_Class.f 60 (n.val : Int) 2 = some (tokB (UInt8.ofNat n.val)) := by decide +kernel
theorem class2_ev (c : UInt8) : Ev (fun k => doorkeeperref02_Class.f k (c.toNat : Int) 2) (tokB c) := by
  have := class2_fin ⟨c.toNat, c.toNat_lt⟩
  refine Ev.of (k := 60) (fun k => doorkeeperref02_Class.mono _ _ k) ?_
  simpa using this
theorem all_l0 (p : UInt8 → Bool) (cl : Int) (hp : ∀ c : UInt8, Ev (fun k => doorkeeperref02_Class.f k (c.toNat : Int) cl) (p c)) (l : List UInt8) (hn : l.length ≤ 9223372036854775807) : ∀ (d i : Nat), l.length - i = d → i ≤ l.length →
    Ev (fun k => doorkeeperref02_All.l0 k (ofL l) cl (i : Int)) ((l.drop i).all p) := by
  intro d
  induction d with
  | zero =>
    intro i hd hi
    obtain rfl : i = l.length := by omega
    refine Ev.step (f := fun _ => some true) (fun k => ?_) (by rw [List.drop_length]; exact Ev.now _)
    simp only [doorkeeperref02_All.l0]
    rw [if_neg (by rw [size_ofL]; omega)]
  | succ d ih =>
    intro i hd hi
    have h1 : i < l.length := by omega
    refine Ev.step (f := fun k => (doorkeeperref02_Class.f k (l[i].toNat : Int) cl).bind fun t => if t = true then doorkeeperref02_All.l0 k (ofL l) cl ((i + 1 : Nat) : Int) else some false) (fun k => ?_) ?_
    · simp only [doorkeeperref02_All.l0]
      rw [if_pos (by rw [size_ofL]; omega), if_pos (by omega), bt_nat _ _ h1, wrap_succ h1 hn]
    · refine Ev.bind (hp l[i]) ?_
      rw [drop_cons l i h1, List.all_cons]
      cases p l[i] with
      | true => simpa using ih (i + 1) (by omega) (by omega)
      | false => simpa using Ev.now (α := Bool) false
theorem all_ev (p : UInt8 → Bool) (cl : Int) (hp : ∀ c : UInt8, Ev (fun k => doorkeeperref02_Class.f k (c.toNat : Int) cl) (p c)) (s : ByteArray) (hn : s.size ≤ 9223372036854775807) : Ev (fun k => doorkeeperref02_All.f k s cl) ((toL s).all p) := by
  have := all_l0 p cl hp (toL s) (by rw [toL_length]; exact hn) _ 0 rfl (Nat.zero_le _)
  rw [ofL_toL] at this
  simpa [doorkeeperref02_All.f] using this
theorem isToken_ev (s : ByteArray) (hn : s.size ≤ 9223372036854775807) : Ev (fun k => doorkeeperref02_IsToken.f k s) (isTok s) := by
  by_cases h : toL s = []
  · have h0 : s.size = 0 := by rw [← toL_length, h]; rfl
    refine Ev.congr (f := fun _ => some false) (fun k => ?_) (by simpa [isTok, h] using Ev.now (α := Bool) false)
    unfold doorkeeperref02_IsToken.f
    rw [if_neg (by omega)]
  · have h0 : 0 < s.size := by rw [← toL_length]; exact List.length_pos_iff.2 h
    refine Ev.congr (f := fun k => (doorkeeperref02_All.f k s 2).bind fun t => some t) (fun k => ?_) ?_
    · unfold doorkeeperref02_IsToken.f
      rw [if_pos (by omega)]
    · have : isTok s = (toL s).all tokB := by simp [isTok, h]
      rw [this]
      exact Ev.bind (all_ev tokB 2 class2_ev s hn) (Ev.now _)


theorem class1_fin : ∀ n : Fin 256, doorkeeperref02_Class.f 60 (n.val : Int) 1 = some (digB (UInt8.ofNat n.val)) := by decide +kernel
theorem class1_ev (c : UInt8) : Ev (fun k => doorkeeperref02_Class.f k (c.toNat : Int) 1) (digB c) := by
  have := class1_fin ⟨c.toNat, c.toNat_lt⟩
  refine Ev.of (k := 60) (fun k => doorkeeperref02_Class.mono _ _ k) ?_
  simpa using this

/-- where the spaces are. -/
def pos : Nat → List UInt8 → List Int
  | _, [] => []
  | i, c :: r => if c = 32 then (i : Int) :: pos (i + 1) r else pos (i + 1) r
def psum : Nat → List (List UInt8) → List Int
  | _, [] => []
  | _, [_] => []
  | i, p :: q :: r => ((i + p.length : Nat) : Int) :: psum (i + p.length + 1) (q :: r)
theorem psum_shift (i : Nat) (x : UInt8) (p : List UInt8) (ps : List (List UInt8)) : psum i ((x :: p) :: ps) = psum (i + 1) (p :: ps) := by
  cases ps with
  | nil => rfl
  | cons q r =>
    simp only [psum, List.length_cons]
    have e1 : i + (p.length + 1) = i + 1 + p.length := by omega
    rw [e1]
theorem pos_split : ∀ (l : List UInt8) (i : Nat), pos i l = psum i (splitL 32 l)
  | [], i => rfl
  | x :: r, i => by
    have ih := pos_split r (i + 1)
    simp only [pos, splitL]
    have hne := splitL_ne 32 r
    by_cases e : x = 32
    · rw [if_pos e, if_pos e, ih]
      cases hs : splitL 32 r with
      | nil => exact absurd hs hne
      | cons p ps => simp [psum]
    · rw [if_neg e, if_neg e, ih]
      cases hs : splitL 32 r with
      | nil => exact absurd hs hne
      | cons p ps => exact (psum_shift i x p ps).symm
theorem psum_length : ∀ (ps : List (List UInt8)) (i : Nat), ps ≠ [] → (psum i ps).length + 1 = ps.length
  | [], _, h => absurd rfl h
  | [_], _, _ => rfl
  | p :: q :: r, i, _ => by
    have := psum_length (q :: r) (i + p.length + 1) (by simp)
    simp only [psum, List.length_cons] at this ⊢
    omega
theorem pos_length : ∀ (l : List UInt8) (i : Nat), (pos i l).length ≤ l.length
  | [], _ => Nat.le_refl _
  | x :: r, i => by
    have := pos_length r (i + 1)
    simp only [pos]
    split <;> simp <;> omega

abbrev ROut := ByteArray × ByteArray × Int × Int × Int
theorem l0_ev (l : List UInt8) (hn : l.length ≤ 2000000) (R : ROut) : ∀ (d i : Nat) (acc : List Int), l.length - i = d → i ≤ l.length → acc.length ≤ i →
    Ev (fun k => doorkeeperref10_Parse.l0 k (ofL l) (acc ++ pos i (l.drop i)) (l.length : Int)) R → Ev (fun k => doorkeeperref10_Parse.l0 k (ofL l) acc (i : Int)) R := by
  intro d
  induction d with
  | zero =>
    intro i acc hd hi _ h
    obtain rfl : i = l.length := by omega
    rw [List.drop_length] at h
    simpa [pos] using h
  | succ d ih =>
    intro i acc hd hi ha h
    have h1 : i < l.length := by omega
    rw [drop_cons l i h1] at h
    simp only [pos] at h
    by_cases e : l[i] = 32
    · rw [if_pos e] at h
      have hb : ((l[i]).toNat : Int) = 32 := by rw [e]; rfl
      refine Ev.step (f := fun k => doorkeeperref10_Parse.l0 k (ofL l) (acc ++ [(i : Int)]) ((i + 1 : Nat) : Int)) (fun k => ?_) (ih (i + 1) (acc ++ [(i : Int)]) (by omega) (by omega) (by simp; omega) (by rw [List.append_assoc]; exact h))
      simp only [doorkeeperref10_Parse.l0]
      rw [if_pos (by rw [size_ofL]; omega), if_pos (by omega), bt_nat _ _ h1, if_pos hb, if_pos (by omega), wrap_succ h1 (by omega)]
    · rw [if_neg e] at h
      have hb : ¬ ((l[i]).toNat : Int) = 32 := fun hh => e ((u8_eq_nat l[i] 32 (by omega)).1 hh)
      refine Ev.step (f := fun k => doorkeeperref10_Parse.l0 k (ofL l) acc ((i + 1 : Nat) : Int)) (fun k => ?_) (ih (i + 1) acc (by omega) (by omega) (by omega) h)
      simp only [doorkeeperref10_Parse.l0]
      rw [if_pos (by rw [size_ofL]; omega), if_pos (by omega), bt_nat _ _ h1, if_neg hb, wrap_succ h1 (by omega)]

def badR (status at_ : Nat) : ROut := (⟨#[]⟩, ⟨#[]⟩, 0, (status : Int), (at_ : Int))
/-- the same line by the reference: the line, the status, the offset. -/
def lineR (m t v : List UInt8) : ROut :=
  if isTok (ofL m) = false then badR 400 0
  else if isVis (ofL t) = false then badR 400 (m.length + 1)
  else if verL v = false then badR 400 (m.length + t.length + 2)
  else if supL v = false then badR 505 (m.length + t.length + 2)
  else (ofL m, ofL t, (if v == [72, 84, 84, 80, 47, 49, 46, 49] then 1 else 0), 0, 0)
def parseR (l : List UInt8) : ROut := match splitL 32 l with
  | [m, t, v] => lineR m t v
  | _ => badR 400 0

/-- what the last part begins with. -/
theorem part0 (m t v : List UInt8) : (ofL (m ++ 32 :: (t ++ 32 :: v))).extract 0 m.length = ofL m := by
  rw [extract_ofL]; simp
theorem part1 (m t v : List UInt8) : (ofL (m ++ 32 :: (t ++ 32 :: v))).extract (m.length + 1) (m.length + 1 + t.length) = ofL t := by
  rw [extract_ofL]
  have e1 : (m ++ 32 :: (t ++ 32 :: v)).drop (m.length + 1) = t ++ 32 :: v := by
    rw [← List.drop_drop]; simp
  have e2 : m.length + 1 + t.length - (m.length + 1) = t.length := by omega
  rw [e1, e2]; simp
theorem part2 (m t v : List UInt8) : (ofL (m ++ 32 :: (t ++ 32 :: v))).extract (m.length + 1 + t.length + 1) (m ++ 32 :: (t ++ 32 :: v)).length = ofL v := by
  rw [extract_ofL]
  have e1 : (m ++ 32 :: (t ++ 32 :: v)).drop (m.length + 1 + t.length + 1) = v := by
    have e : m.length + 1 + t.length + 1 = m.length + (1 + (t.length + 1)) := by omega
    rw [e, ← List.drop_drop, List.drop_left, ← List.drop_drop]
    simp only [List.drop_succ_cons, List.drop_zero]
    rw [← List.drop_drop, List.drop_left]
    rfl
  rw [e1]
  rw [List.take_of_length_le (by simp; omega)]

theorem j4_ev (l m t v : List UInt8) (x5 : List Int) (hx : x5 = [(m.length : Int), ((m.length + 1 + t.length : Nat) : Int)]) (hl : l = m ++ 32 :: (t ++ 32 :: v)) (hn : l.length ≤ 2000000) (hs : supL v = true) :
    Ev (fun k => doorkeeperref10_Parse.j4 k (ofL l) x5 (ofL t) (ofL v) false) (ofL m, ofL t, (if v == [72, 84, 84, 80, 47, 49, 46, 49] then 1 else 0), 0, 0) := by
  subst hx
  subst hl
  simp only [List.length_append, List.length_cons] at hn
  refine Ev.step (f := fun _ => some _) (fun k => ?_) (Ev.now _)
  simp only [doorkeeperref10_Parse.j4]
  have r0 : rd [(m.length : Int), ((m.length + 1 + t.length : Nat) : Int)] 0 = (m.length : Int) := rfl
  rw [if_neg (by simp), if_pos (by simp), r0, if_pos (by omega), if_pos (by rw [size_ofL]; simp; omega), Int.toNat_natCast, part0, toList_ofL]
  by_cases h : v = [72, 84, 84, 80, 47, 49, 46, 49]
  · rw [if_pos h, if_pos (by simpa using h)]
  · rw [if_neg h, if_neg (by simpa using h)]
theorem j3_ev (l m t v : List UInt8) (x5 : List Int) (hx : x5 = [(m.length : Int), ((m.length + 1 + t.length : Nat) : Int)]) (hl : l = m ++ 32 :: (t ++ 32 :: v)) (hn : l.length ≤ 2000000) (b : Bool) (hb : b = !verL v) :
    Ev (fun k => doorkeeperref10_Parse.j3 k (ofL l) x5 (ofL t) (ofL v) b) (if verL v = false then badR 400 (m.length + t.length + 2) else if supL v = false then badR 505 (m.length + t.length + 2) else (ofL m, ofL t, (if v == [72, 84, 84, 80, 47, 49, 46, 49] then 1 else 0), 0, 0)) := by
  have hn2 : m.length + t.length + v.length + 2 ≤ 2000000 := by rw [hl] at hn; simp at hn; omega
  have r1 : rd x5 1 = ((m.length + 1 + t.length : Nat) : Int) := by subst hx; rfl
  have hw : wrap64 (rd x5 1 + 1) = ((m.length + t.length + 2 : Nat) : Int) := by rw [r1, wrap64_ok (by omega) (by omega)]; omega
  have hlen : 1 < (x5.length : Int) := by subst hx; simp
  refine Ev.step (f := fun k => doorkeeperref10_Parse.j3 (k + 1) (ofL l) x5 (ofL t) (ofL v) b) (fun _ => rfl) ?_
  simp only [doorkeeperref10_Parse.j3]
  cases hv : verL v with
  | false =>
    rw [hv] at hb
    subst hb
    refine Ev.congr (fun k => if_pos rfl) (Ev.congr (fun k => if_pos hlen) ?_)
    rw [hw]
    exact Ev.now _
  | true =>
    rw [hv] at hb
    subst hb
    refine Ev.congr (fun k => if_neg (by simp)) ?_
    rw [if_neg (by simp), toList_ofL]
    cases hs : supL v with
    | true =>
      rw [if_neg (by simp)]
      have h4 := j4_ev l m t v x5 hx hl hn hs
      by_cases h0 : v = [72, 84, 84, 80, 47, 49, 46, 48]
      · exact Ev.congr (fun k => if_pos h0) h4
      · have h1 : (v != [72, 84, 84, 80, 47, 49, 46, 49]) = false := by
          simp only [supL, Bool.or_eq_true, beq_iff_eq] at hs
          rcases hs with h | h
          · exact absurd h h0
          · simp [h]
        rw [h1]
        exact Ev.congr (fun k => if_neg h0) h4
    | false =>
      rw [if_pos rfl]
      simp only [supL, Bool.or_eq_false_iff, beq_eq_false_iff_ne] at hs
      have h1 : (v != [72, 84, 84, 80, 47, 49, 46, 49]) = true := by simpa using hs.2
      rw [h1]
      refine Ev.congr (fun k => if_neg hs.1) ?_
      refine Ev.step (f := fun k => doorkeeperref10_Parse.j4 (k + 1) (ofL l) x5 (ofL t) (ofL v) true) (fun _ => rfl) ?_
      simp only [doorkeeperref10_Parse.j4]
      refine Ev.congr (fun k => if_pos trivial) (Ev.congr (fun k => if_pos hlen) ?_)
      rw [hw]
      exact Ev.now _

def tailR (m t v : List UInt8) : ROut := if verL v = false then badR 400 (m.length + t.length + 2) else if supL v = false then badR 505 (m.length + t.length + 2) else (ofL m, ofL t, (if v == [72, 84, 84, 80, 47, 49, 46, 49] then 1 else 0), 0, 0)
theorem ver_len {v : List UInt8} (h : v.length ≠ 8) : verL v = false := by
  unfold verL
  split
  · simp at h
  · rfl
theorem tail_ev (l m t v : List UInt8) (x5 : List Int) (hx : x5 = [(m.length : Int), ((m.length + 1 + t.length : Nat) : Int)]) (hl : l = m ++ 32 :: (t ++ 32 :: v)) (hn : l.length ≤ 2000000) :
    Ev (fun k => doorkeeperref10_Parse.l1 k (ofL l) x5 (ofL t) (t.length : Int)) (tailR m t v) := by
  have hn2 : l.length = m.length + t.length + v.length + 2 := by rw [hl]; simp; omega
  have r1 : rd x5 1 = ((m.length + 1 + t.length : Nat) : Int) := by subst hx; rfl
  have hw : wrap64 (rd x5 1 + 1) = ((m.length + 1 + t.length + 1 : Nat) : Int) := by rw [r1, wrap64_ok (by omega) (by omega)]; omega
  have hlen : 1 < (x5.length : Int) := by subst hx; simp
  have hv : (ofL l).extract (m.length + 1 + t.length + 1) l.length = ofL v := by rw [hl]; exact part2 m t v
  have j3 := fun (b : Bool) (hb : b = !verL v) => j3_ev l m t v x5 hx hl hn b hb
  refine Ev.step (f := fun k => doorkeeperref10_Parse.l1 (k + 1) (ofL l) x5 (ofL t) (t.length : Int)) (fun _ => rfl) ?_
  simp only [doorkeeperref10_Parse.l1]
  refine Ev.congr (fun k => if_neg (by rw [size_ofL]; omega)) (Ev.congr (fun k => if_pos hlen) ?_)
  rw [hw]
  refine Ev.congr (fun k => if_pos (by omega)) (Ev.congr (fun k => if_pos (by rw [size_ofL]; omega)) ?_)
  rw [Int.toNat_natCast, size_ofL l, hv]
  by_cases h8 : v.length = 8
  · refine Ev.congr (fun k => if_pos (by rw [size_ofL]; omega)) (Ev.congr (fun k => if_pos (by decide)) (Ev.congr (fun k => if_pos (by rw [size_ofL]; omega)) ?_))
    match v, h8 with
    | [a, b, c, d, e, f, g, h], _ =>
      have hp : ((ofL [a, b, c, d, e, f, g, h]).extract 0 5).toList = [a, b, c, d, e] := by rw [extract_ofL, toList_ofL]; rfl
      rw [hp]
      have b5 : bt (ofL [a, b, c, d, e, f, g, h]) 5 = (f.toNat : Int) := bt_ofL _ _
      have b6 : bt (ofL [a, b, c, d, e, f, g, h]) 6 = (g.toNat : Int) := bt_ofL _ _
      have b7 : bt (ofL [a, b, c, d, e, f, g, h]) 7 = (h.toNat : Int) := bt_ofL _ _
      by_cases hpre : [a, b, c, d, e] = ([72, 84, 84, 80, 47] : List UInt8)
      · refine Ev.congr (fun k => if_pos hpre) (Ev.congr (fun k => if_pos (by rw [size_ofL]; simp)) ?_)
        rw [b5]
        refine Ev.bind (class1_ev f) ?_
        simp only [List.cons.injEq, and_true] at hpre
        obtain ⟨rfl, rfl, rfl, rfl, rfl⟩ := hpre
        cases hf : digB f with
        | false => exact Ev.congr (fun k => if_neg (by simp)) (j3 true (by simp [verL, hf]))
        | true =>
          refine Ev.congr (fun k => if_pos rfl) (Ev.congr (fun k => if_pos (by rw [size_ofL]; simp)) ?_)
          rw [b6]
          have hg : ((g.toNat : Int) = 46) ↔ g = 46 := u8_eq_nat g 46 (by omega)
          by_cases hg6 : g = 46
          · refine Ev.congr (fun k => if_pos (hg.2 hg6)) (Ev.congr (fun k => if_pos (by rw [size_ofL]; simp)) ?_)
            rw [b7]
            refine Ev.bind (class1_ev h) (j3 _ (by simp [verL, hf, hg6]))
          · exact Ev.congr (fun k => if_neg (fun hh => hg6 (hg.1 hh))) (j3 true (by simp [verL, hf, hg6]))
      · refine Ev.congr (fun k => if_neg hpre) (j3 true ?_)
        have : (a == 72 && b == 84 && c == 84 && d == 80 && e == 47) = false := by
          rw [Bool.eq_false_iff]
          intro hh
          simp only [Bool.and_eq_true, beq_iff_eq] at hh
          exact hpre (by simp [hh])
        simp [verL, this]
  · exact Ev.congr (fun k => if_neg (by rw [size_ofL]; omega)) (j3 true (by rw [ver_len h8]; rfl))

theorem vis_iff (c : UInt8) : visB c = true ↔ ¬ (c.toNat : Int) < 33 ∧ ¬ (c.toNat : Int) > 126 := by
  unfold visB
  have h1 : (33 ≤ c) ↔ ¬ (c.toNat : Int) < 33 := by rw [UInt8.le_iff_toNat_le, show (33 : UInt8).toNat = 33 from rfl]; omega
  have h2 : (c ≤ 126) ↔ ¬ (c.toNat : Int) > 126 := by rw [UInt8.le_iff_toNat_le, show (126 : UInt8).toNat = 126 from rfl]; omega
  rw [Bool.and_eq_true, decide_eq_true_eq, decide_eq_true_eq, h1, h2]
theorem l1_ev (l m t v : List UInt8) (x5 : List Int) (hx : x5 = [(m.length : Int), ((m.length + 1 + t.length : Nat) : Int)]) (hl : l = m ++ 32 :: (t ++ 32 :: v)) (hn : l.length ≤ 2000000) : ∀ (d i : Nat), t.length - i = d → i ≤ t.length →
    Ev (fun k => doorkeeperref10_Parse.l1 k (ofL l) x5 (ofL t) (i : Int)) (if (t.drop i).all visB then tailR m t v else badR 400 (m.length + 1)) := by
  have hn2 : l.length = m.length + t.length + v.length + 2 := by rw [hl]; simp; omega
  have r0 : rd x5 0 = (m.length : Int) := by subst hx; rfl
  have hw : wrap64 (rd x5 0 + 1) = ((m.length + 1 : Nat) : Int) := by rw [r0, wrap64_ok (by omega) (by omega)]; omega
  have hlen : 0 < (x5.length : Int) := by subst hx; simp
  intro d
  induction d with
  | zero =>
    intro i hd hi
    obtain rfl : i = t.length := by omega
    rw [List.drop_length]
    exact tail_ev l m t v x5 hx hl hn
  | succ d ih =>
    intro i hd hi
    have h1 : i < t.length := by omega
    rw [drop_cons t i h1, List.all_cons]
    cases hb : visB t[i] with
    | true =>
      obtain ⟨b1, b2⟩ := (vis_iff _).1 hb
      refine Ev.step (f := fun k => doorkeeperref10_Parse.l1 k (ofL l) x5 (ofL t) ((i + 1 : Nat) : Int)) (fun k => ?_) (by rw [Bool.true_and]; exact ih (i + 1) (by omega) (by omega))
      simp only [doorkeeperref10_Parse.l1]
      rw [if_pos (by rw [size_ofL]; omega), if_pos (by omega), bt_nat _ _ h1, if_neg b1, if_neg b2, wrap_succ h1 (by omega)]
    | false =>
      rw [Bool.false_and]
      have hor : (t[i].toNat : Int) < 33 ∨ (t[i].toNat : Int) > 126 := by
        by_cases a : (t[i].toNat : Int) < 33
        · exact .inl a
        · by_cases b : (t[i].toNat : Int) > 126
          · exact .inr b
          · rw [(vis_iff _).2 ⟨a, b⟩] at hb; cases hb
      refine Ev.step (f := fun _ => some (badR 400 (m.length + 1))) (fun k => ?_) (by simpa using Ev.now (badR 400 (m.length + 1)))
      simp only [doorkeeperref10_Parse.l1]
      rw [if_pos (by rw [size_ofL]; omega), if_pos (by omega), bt_nat _ _ h1, hw]
      by_cases a : (t[i].toNat : Int) < 33
      · rw [if_pos a, if_pos hlen]; rfl
      · rw [if_neg a, if_pos (by omega), if_pos hlen]; rfl

theorem parse_ev (s : ByteArray) (hs : s.size ≤ 2000000) : Ev (fun k => doorkeeperref10_Parse.f k s) (parseR (toL s)) := by
  rw [← ofL_toL s, toL_ofL]
  generalize hl : toL s = l
  have hn : l.length ≤ 2000000 := by rw [← hl, toL_length]; exact hs
  have hf : ∀ k, doorkeeperref10_Parse.f k (ofL l) = doorkeeperref10_Parse.l0 k (ofL l) [] ((0 : Nat) : Int) := fun k => rfl
  refine Ev.congr hf (l0_ev l hn _ _ 0 [] rfl (Nat.zero_le _) (Nat.le_refl _) ?_)
  rw [List.nil_append, List.drop_zero, pos_split]
  refine Ev.step (f := fun k => doorkeeperref10_Parse.l0 (k + 1) (ofL l) (psum 0 (splitL 32 l)) (l.length : Int)) (fun _ => rfl) ?_
  simp only [doorkeeperref10_Parse.l0]
  refine Ev.congr (fun k => if_neg (by rw [size_ofL]; omega)) ?_
  have hps := psum_length (splitL 32 l) 0 (splitL_ne 32 l)
  by_cases h3 : (splitL 32 l).length = 3
  · obtain ⟨m, t, v, hsp⟩ : ∃ m t v, splitL 32 l = [m, t, v] := by
      match splitL 32 l, h3 with
      | [m, t, v], _ => exact ⟨m, t, v, rfl⟩
    have hR : parseR l = lineR m t v := by unfold parseR; rw [hsp]
    rw [hR]
    have hg := glue_split 32 l
    rw [hsp] at hg
    have hll : l = m ++ 32 :: (t ++ 32 :: v) := hg.symm
    rw [hsp]
    have hx : psum 0 [m, t, v] = [(m.length : Int), ((m.length + 1 + t.length : Nat) : Int)] := by simp [psum]
    rw [hx]
    have hn2 : l.length = m.length + t.length + v.length + 2 := by rw [hll]; simp; omega
    have r0 : rd [(m.length : Int), ((m.length + 1 + t.length : Nat) : Int)] 0 = (m.length : Int) := rfl
    have r1 : rd [(m.length : Int), ((m.length + 1 + t.length : Nat) : Int)] 1 = ((m.length + 1 + t.length : Nat) : Int) := rfl
    have hw : wrap64 ((m.length : Int) + 1) = ((m.length + 1 : Nat) : Int) := by rw [wrap64_ok (by omega) (by omega)]; omega
    refine Ev.congr (fun k => if_pos (by simp)) (Ev.congr (fun k => if_pos (by simp)) ?_)
    rw [r0]
    refine Ev.congr (fun k => if_pos (by omega)) (Ev.congr (fun k => if_pos (by rw [size_ofL]; omega)) ?_)
    have hm : (ofL l).extract 0 m.length = ofL m := by rw [hll]; exact part0 m t v
    rw [Int.toNat_natCast, hm]
    refine Ev.bind (isToken_ev (ofL m) (by rw [size_ofL]; omega)) ?_
    unfold lineR
    cases h0 : isTok (ofL m) with
    | false =>
      rw [if_pos rfl]
      refine Ev.step (f := fun _ => some _) (fun k => ?_) (Ev.now _)
      simp only [doorkeeperref10_Parse.j1]
      rw [if_pos (by simp)]; rfl
    | true =>
      rw [if_neg (by simp)]
      refine Ev.step (f := fun k => doorkeeperref10_Parse.j1 (k + 1) (ofL l) [(m.length : Int), ((m.length + 1 + t.length : Nat) : Int)] (!true)) (fun _ => rfl) ?_
      simp only [doorkeeperref10_Parse.j1]
      refine Ev.congr (fun k => if_neg (by simp)) (Ev.congr (fun k => if_pos (by simp)) (Ev.congr (fun k => if_pos (by simp)) ?_))
      rw [r0, r1, hw]
      refine Ev.congr (fun k => if_pos (by omega)) (Ev.congr (fun k => if_pos (by omega)) (Ev.congr (fun k => if_pos (by rw [size_ofL]; omega)) ?_))
      have ht : (ofL l).extract (m.length + 1) (m.length + 1 + t.length) = ofL t := by rw [hll]; exact part1 m t v
      rw [Int.toNat_natCast, Int.toNat_natCast, ht, toList_ofL]
      by_cases hte : t = []
      · subst hte
        rw [if_pos (by decide)]
        exact Ev.congr (fun k => if_pos rfl) (Ev.now _)
      · refine Ev.congr (fun k => if_neg hte) ?_
        have hv : isVis (ofL t) = t.all visB := by unfold Go.Proofs.YtiolgglipcijpaaDoor.ROct.isVis; rw [toL_ofL]; simp [hte]
        have h := l1_ev l m t v _ rfl hll hn _ 0 rfl (Nat.zero_le _)
        rw [List.drop_zero] at h
        rw [hv]
        cases ha : t.all visB with
        | false => rw [ha] at h; rw [if_pos rfl]; exact h
        | true => rw [ha] at h; rw [if_neg (by simp)]; exact h
  · have hR : parseR l = badR 400 0 := by
      unfold parseR
      split
      · rename_i hsp; rw [hsp] at h3; exact absurd rfl h3
      · rfl
    rw [hR]
    have h2 : ¬ ((psum 0 (splitL 32 l)).length : Int) = 2 := by omega
    refine Ev.congr (fun k => if_neg h2) ?_
    refine Ev.step (f := fun _ => some _) (fun k => ?_) (Ev.now _)
    simp only [doorkeeperref10_Parse.j1]
    rw [if_pos trivial]; rfl

end Go.Proofs.YtiolgglipcijpaaDoor.QRef
end

section
namespace Go.Proofs.YtiolgglipcijpaaDoor.QPure
open Go Go.RowKit Go.Proofs.YtiolgglipcijpaaDoorW.PrintWords Go.Proofs.YtiolgglipcijpaaDoor.P

theorem aw10 : doorkeeperlaw10_awake.f = some true := by decide +kernel
theorem ev_true {f : Nat → Option Bool} {b : Bool} (h : b = true) (he : Ev f b) : Ev f true := by rw [← h]; exact he
theorem ev_const {α : Type} {o : Option α} {v : α} (h : o = some v) : Ev (fun _ => o) v := ⟨0, fun _ _ => h⟩

end Go.Proofs.YtiolgglipcijpaaDoor.QPure
end

section
namespace Go.Proofs.YtiolgglipcijpaaDoor.P
open Go.RowKit Go.Proofs.YtiolgglipcijpaaDoorW.PrintWords Go.Proofs.YtiolgglipcijpaaDoorW.PrintLast Go.Proofs.YtiolgglipcijpaaDoorW.PrintMore
attribute [local go_sem] max2_int min2_int max_two min_two max_three min_three max_four min_four   -- for this text's walks alone
set_option linter.unusedVariables false
set_option linter.unusedSimpArgs false

/-! ### doorkeeperref10_Text: function 16 -/
def doorkeeperref10_Text.f (a0_0 : ByteArray) (a0_1 : ByteArray) (a0_2 : Int) : Option (ByteArray) := if a0_2 = 0 then (if a0_0.size + 1 ≤ 9223372036854775807 then (if (a0_0 ++ (⟨#[32]⟩ : ByteArray)).size + a0_1.size ≤ 9223372036854775807 then (if ((a0_0 ++ (⟨#[32]⟩ : ByteArray)) ++ a0_1).size + 9 ≤ 9223372036854775807 then (some (((a0_0 ++ (⟨#[32]⟩ : ByteArray)) ++ a0_1) ++ (⟨#[32, 72, 84, 84, 80, 47, 49, 46, 48]⟩ : ByteArray))) else (none)) else (none)) else (none)) else (if a0_0.size + 1 ≤ 9223372036854775807 then (if (a0_0 ++ (⟨#[32]⟩ : ByteArray)).size + a0_1.size ≤ 9223372036854775807 then (if ((a0_0 ++ (⟨#[32]⟩ : ByteArray)) ++ a0_1).size + 9 ≤ 9223372036854775807 then (some (((a0_0 ++ (⟨#[32]⟩ : ByteArray)) ++ a0_1) ++ (⟨#[32, 72, 84, 84, 80, 47, 49, 46, 49]⟩ : ByteArray))) else (none)) else (none)) else (none))
set_option maxHeartbeats 8000000 in
set_option maxRecDepth 100000 in
theorem doorkeeperref10_Text.calls (a0_0 : ByteArray) (a0_1 : ByteArray) (a0_2 : Int) (r : ByteArray) (w : World) (h : doorkeeperref10_Text.f a0_0 a0_1 a0_2 = some r) :
    Calls Tryd.prog 16 #[.agg #[.string a0_0, .string a0_1, .int .i64 a0_2]] w fun e w' => e = .returned (.string r) ∧ Below w.heap.size w w' := by
  have hu29 := Tryd.underlying29
  have HB := Aside0.mk (Below.refl w.heap.size w)
  have H : (if a0_2 = 0 then (if a0_0.size + 1 ≤ 9223372036854775807 then (if (a0_0 ++ (⟨#[32]⟩ : ByteArray)).size + a0_1.size ≤ 9223372036854775807 then (if ((a0_0 ++ (⟨#[32]⟩ : ByteArray)) ++ a0_1).size + 9 ≤ 9223372036854775807 then (some (((a0_0 ++ (⟨#[32]⟩ : ByteArray)) ++ a0_1) ++ (⟨#[32, 72, 84, 84, 80, 47, 49, 46, 48]⟩ : ByteArray))) else (none)) else (none)) else (none)) else (if a0_0.size + 1 ≤ 9223372036854775807 then (if (a0_0 ++ (⟨#[32]⟩ : ByteArray)).size + a0_1.size ≤ 9223372036854775807 then (if ((a0_0 ++ (⟨#[32]⟩ : ByteArray)) ++ a0_1).size + 9 ≤ 9223372036854775807 then (some (((a0_0 ++ (⟨#[32]⟩ : ByteArray)) ++ a0_1) ++ (⟨#[32, 72, 84, 84, 80, 47, 49, 46, 49]⟩ : ByteArray))) else (none)) else (none)) else (none))) = some r := h
  clear h
  by_cases c2 : a0_2 = 0
  · rw [if_pos c2] at H
    have c2b0 : (a0_2 == 0) = true := beq_iff_eq.mpr c2
    have c2b1 : (a0_2 != 0) = false := bne_eq_false_iff_eq.mpr c2
    clear c2
    by_cases c3 : a0_0.size + 1 ≤ 9223372036854775807
    · rw [if_pos c3] at H
      have c3b0 := eq_true c3
      have c3b1 : decide (a0_0.size + 1 ≤ 9223372036854775807) = true := decide_eq_true c3
      try have c3b2 : (9223372036854775807 < a0_0.size + 1) = False := eq_false (Nat.not_lt.2 c3)
      by_cases c4 : (a0_0 ++ (⟨#[32]⟩ : ByteArray)).size + a0_1.size ≤ 9223372036854775807
      · rw [if_pos c4] at H
        have c4b0 := eq_true c4
        have c4b1 : decide ((a0_0 ++ (⟨#[32]⟩ : ByteArray)).size + a0_1.size ≤ 9223372036854775807) = true := decide_eq_true c4
        try have c4b2 : (9223372036854775807 < (a0_0 ++ (⟨#[32]⟩ : ByteArray)).size + a0_1.size) = False := eq_false (Nat.not_lt.2 c4)
        try have c4b3 : (9223372036854775807 < a0_0.size + 1 + a0_1.size) = False := (by have h_ := c4b2; (repeat rw [ByteArray.size_append] at h_); exact h_)
        by_cases c5 : ((a0_0 ++ (⟨#[32]⟩ : ByteArray)) ++ a0_1).size + 9 ≤ 9223372036854775807
        · rw [if_pos c5] at H
          have c5b0 := eq_true c5
          have c5b1 : decide (((a0_0 ++ (⟨#[32]⟩ : ByteArray)) ++ a0_1).size + 9 ≤ 9223372036854775807) = true := decide_eq_true c5
          try have c5b2 : (9223372036854775807 < ((a0_0 ++ (⟨#[32]⟩ : ByteArray)) ++ a0_1).size + 9) = False := eq_false (Nat.not_lt.2 c5)
          try have c5b3 : (9223372036854775807 < a0_0.size + 1 + a0_1.size + 9) = False := (by have h_ := c5b2; (repeat rw [ByteArray.size_append] at h_); exact h_)
          obtain rfl := Option.some.inj H
          go_enter Tryd.func16, Tryd.ntmps16
          go_wp2_with (first | ((with_reducible refine gate_dst (N := 1) rfl ?_); refine box_event ?hg (N := 1) ?hd (cs := #[.string a0_0, .string a0_1, .int .i64 a0_2]) (t := 29) ?hr ?_; (case hd => rfl); (case hg => rfl); (case hr => first | (go_simp; done) | (go_simp; rfl)); intro gb168 hg w6 hbox hb; have n0_ := Aside0.mk (below_step (by repeat (first | (with_reducible first | exact HB.out | apply below_alloc | apply pw_below_drewN | apply below_drew1) | exact HB.out)) hb); have n1_ := Aside0.mk (hbox); have n2_ := Aside0.mk ((by rw [hg]; exact (below_size (by repeat (first | (with_reducible first | exact HB.out | apply below_alloc | apply pw_below_drewN | apply below_drew1) | exact HB.out))) : w.heap.size ≤ gb168)); have n3_ := Aside0.mk ((by rw [hg]; exact (below_size (by repeat (first | (with_reducible first | exact HB.out | apply below_alloc | apply pw_below_drewN | apply below_drew1) | exact HB.out))) : w.heap.size ≤ gb168)); clear HB; have HB := n0_; have BK168 := n1_; have GW168 := n2_; have GE168 := n3_; clear n0_ n1_ n2_ n3_; clear hb hbox hg; have hcz7_0 : w6.cell? ⟨gb168, 0, none⟩ = some (.string a0_0) := (blk_cell BK168.out 0).trans rfl; have hcz7_1 : w6.cell? ⟨gb168, 1, none⟩ = some (.string a0_1) := (blk_cell BK168.out 1).trans rfl; have hcz7_2 : w6.cell? ⟨gb168, 2, none⟩ = some (.int .i64 a0_2) := (blk_cell BK168.out 2).trans rfl; have hfz7_0 := blk_frozen BK168.out 0; have hfz7_1 := blk_frozen BK168.out 1; have hfz7_2 := blk_frozen BK168.out 2))
          go_ret
          exact ⟨by first | rfl | (simp [errW_none, errW_some] <;> rfl) | (simp [*, errW_none, errW_some] <;> rfl), by repeat (first | (with_reducible first | exact HB.out | apply below_alloc | apply pw_below_drewN | apply below_drew1 | refine below_set ?_ GE168.out) | exact HB.out)⟩
        · rw [if_neg c5] at H
          exact absurd H (by simp)
      · rw [if_neg c4] at H
        exact absurd H (by simp)
    · rw [if_neg c3] at H
      exact absurd H (by simp)
  · rw [if_neg c2] at H
    have c2b0 : (a0_2 == 0) = false := beq_eq_false_iff_ne.mpr c2
    have c2b1 : (a0_2 != 0) = true := bne_iff_ne.mpr c2
    by_cases c8 : a0_0.size + 1 ≤ 9223372036854775807
    · rw [if_pos c8] at H
      have c8b0 := eq_true c8
      have c8b1 : decide (a0_0.size + 1 ≤ 9223372036854775807) = true := decide_eq_true c8
      try have c8b2 : (9223372036854775807 < a0_0.size + 1) = False := eq_false (Nat.not_lt.2 c8)
      by_cases c9 : (a0_0 ++ (⟨#[32]⟩ : ByteArray)).size + a0_1.size ≤ 9223372036854775807
      · rw [if_pos c9] at H
        have c9b0 := eq_true c9
        have c9b1 : decide ((a0_0 ++ (⟨#[32]⟩ : ByteArray)).size + a0_1.size ≤ 9223372036854775807) = true := decide_eq_true c9
        try have c9b2 : (9223372036854775807 < (a0_0 ++ (⟨#[32]⟩ : ByteArray)).size + a0_1.size) = False := eq_false (Nat.not_lt.2 c9)
        try have c9b3 : (9223372036854775807 < a0_0.size + 1 + a0_1.size) = False := (by have h_ := c9b2; (repeat rw [ByteArray.size_append] at h_); exact h_)
        by_cases c10 : ((a0_0 ++ (⟨#[32]⟩ : ByteArray)) ++ a0_1).size + 9 ≤ 9223372036854775807
        · rw [if_pos c10] at H
          have c10b0 := eq_true c10
          have c10b1 : decide (((a0_0 ++ (⟨#[32]⟩ : ByteArray)) ++ a0_1).size + 9 ≤ 9223372036854775807) = true := decide_eq_true c10
          try have c10b2 : (9223372036854775807 < ((a0_0 ++ (⟨#[32]⟩ : ByteArray)) ++ a0_1).size + 9) = False := eq_false (Nat.not_lt.2 c10)
          try have c10b3 : (9223372036854775807 < a0_0.size + 1 + a0_1.size + 9) = False := (by have h_ := c10b2; (repeat rw [ByteArray.size_append] at h_); exact h_)
          obtain rfl := Option.some.inj H
          go_enter Tryd.func16, Tryd.ntmps16
          go_wp2_with (first | ((with_reducible refine gate_dst (N := 1) rfl ?_); refine box_event ?hg (N := 1) ?hd (cs := #[.string a0_0, .string a0_1, .int .i64 a0_2]) (t := 29) ?hr ?_; (case hd => rfl); (case hg => rfl); (case hr => first | (go_simp; done) | (go_simp; rfl)); intro gb168 hg w11 hbox hb; have n0_ := Aside0.mk (below_step (by repeat (first | (with_reducible first | exact HB.out | apply below_alloc | apply pw_below_drewN | apply below_drew1) | exact HB.out)) hb); have n1_ := Aside0.mk (hbox); have n2_ := Aside0.mk ((by rw [hg]; exact (below_size (by repeat (first | (with_reducible first | exact HB.out | apply below_alloc | apply pw_below_drewN | apply below_drew1) | exact HB.out))) : w.heap.size ≤ gb168)); have n3_ := Aside0.mk ((by rw [hg]; exact (below_size (by repeat (first | (with_reducible first | exact HB.out | apply below_alloc | apply pw_below_drewN | apply below_drew1) | exact HB.out))) : w.heap.size ≤ gb168)); clear HB; have HB := n0_; have BK168 := n1_; have GW168 := n2_; have GE168 := n3_; clear n0_ n1_ n2_ n3_; clear hb hbox hg; have hcz12_0 : w11.cell? ⟨gb168, 0, none⟩ = some (.string a0_0) := (blk_cell BK168.out 0).trans rfl; have hcz12_1 : w11.cell? ⟨gb168, 1, none⟩ = some (.string a0_1) := (blk_cell BK168.out 1).trans rfl; have hcz12_2 : w11.cell? ⟨gb168, 2, none⟩ = some (.int .i64 a0_2) := (blk_cell BK168.out 2).trans rfl; have hfz12_0 := blk_frozen BK168.out 0; have hfz12_1 := blk_frozen BK168.out 1; have hfz12_2 := blk_frozen BK168.out 2))
          go_ret
          exact ⟨by first | rfl | (simp [errW_none, errW_some] <;> rfl) | (simp [*, errW_none, errW_some] <;> rfl), by repeat (first | (with_reducible first | exact HB.out | apply below_alloc | apply pw_below_drewN | apply below_drew1 | refine below_set ?_ GE168.out) | exact HB.out)⟩
        · rw [if_neg c10] at H
          exact absurd H (by simp)
      · rw [if_neg c9] at H
        exact absurd H (by simp)
    · rw [if_neg c8] at H
      exact absurd H (by simp)

end Go.Proofs.YtiolgglipcijpaaDoor.P
end

section
namespace Go.Proofs.YtiolgglipcijpaaDoor.QPure
open Go Go.RowKit Go.Proofs.YtiolgglipcijpaaDoorW.PrintWords Go.Proofs.YtiolgglipcijpaaDoor.PB Go.Proofs.YtiolgglipcijpaaDoor.P Go.Proofs.YtiolgglipcijpaaDoor.LSpec Go.Proofs.YtiolgglipcijpaaDoor.RSpec Go.Proofs.YtiolgglipcijpaaDoor.QRef
open Go.Proofs.YtiolgglipcijpaaDoor.ROct (isTok isVis)

def verOf (mi : Int) : List UInt8 := if mi = 0 then [72, 84, 84, 80, 47, 49, 46, 48] else [72, 84, 84, 80, 47, 49, 46, 49]
theorem ver_length (mi : Int) : (verOf mi).length = 8 := by unfold verOf; split <;> rfl
theorem both_three (m t v : List UInt8) : (∃ mi : Int, (mi = 0 ∨ mi = 1) ∧ v = verOf mi ∧ lineL m t v = (ofL m, ofL t, mi, none) ∧ lineR m t v = (ofL m, ofL t, mi, 0, 0)) ∨
    ∃ st at_ : Nat, (st = 400 ∨ st = 505) ∧ lineL m t v = bad st at_ ∧ lineR m t v = badR st at_ := by
  unfold lineL lineR
  cases h0 : isTok (ofL m) with
  | false => exact .inr ⟨400, 0, .inl rfl, by simp, by simp⟩
  | true =>
    cases h1 : isVis (ofL t) with
    | false => exact .inr ⟨400, m.length + 1, .inl rfl, by simp, by simp⟩
    | true =>
      cases h2 : verL v with
      | false => exact .inr ⟨400, m.length + t.length + 2, .inl rfl, by simp, by simp⟩
      | true =>
        cases h3 : supL v with
        | false => exact .inr ⟨505, m.length + t.length + 2, .inr rfl, by simp, by simp⟩
        | true =>
          simp only [supL, Bool.or_eq_true, beq_iff_eq] at h3
          rcases h3 with rfl | rfl
          · exact .inl ⟨0, .inl rfl, rfl, by simp, by simp⟩
          · exact .inl ⟨1, .inr rfl, rfl, by simp, by simp⟩
theorem both (l : List UInt8) : (∃ m t mi, (mi = 0 ∨ mi = 1) ∧ parseL l = (ofL m, ofL t, mi, none) ∧ parseR l = (ofL m, ofL t, mi, 0, 0) ∧ l = m ++ 32 :: (t ++ 32 :: verOf mi) ∧ splitL 32 l = [m, t, verOf mi]) ∨
    ∃ st at_ : Nat, (st = 400 ∨ st = 505) ∧ parseL l = bad st at_ ∧ parseR l = badR st at_ := by
  by_cases h3 : (splitL 32 l).length = 3
  · obtain ⟨m, t, v, hsp⟩ : ∃ m t v, splitL 32 l = [m, t, v] := by
      match splitL 32 l, h3 with
      | [m, t, v], _ => exact ⟨m, t, v, rfl⟩
    have hL : parseL l = lineL m t v := by unfold parseL; rw [hsp]
    have hR : parseR l = lineR m t v := by unfold parseR; rw [hsp]
    have hg := glue_split 32 l
    rw [hsp] at hg
    rw [hL, hR]
    rcases both_three m t v with ⟨mi, hmi, hv, h1, h2⟩ | h
    · exact .inl ⟨m, t, mi, hmi, h1, h2, by rw [← hv]; exact hg.symm, by rw [← hv]; exact hsp⟩
    · exact .inr h
  · have hL : parseL l = bad 400 0 := by
      unfold parseL
      split
      · rename_i hsp; rw [hsp] at h3; exact absurd rfl h3
      · rfl
    have hR : parseR l = badR 400 0 := by
      unfold parseR
      split
      · rename_i hsp; rw [hsp] at h3; exact absurd rfl h3
      · rfl
    exact .inr ⟨400, 0, .inl rfl, hL, hR⟩
theorem wrong_err (st at_ : Nat) (h : st < 1000) : doorkeeperlaw10_wrong.f (errC st at_) (st : Int) (at_ : Int) = some true := by
  unfold errC doorkeeperlaw10_wrong.f
  have e1 : ((at_ : Int) * 1000 + (st : Int)) % 1000 = st := by omega
  have e2 : ((at_ : Int) * 1000 + (st : Int)) / 1000 = at_ := by omega
  simp [e1, e2]
theorem text_f (m t : ByteArray) (mi : Int) (h : m.size + t.size ≤ 1000000) : reqline_Text.f m t mi = some (ofL (toL m ++ 32 :: (toL t ++ 32 :: verOf mi))) := by
  have e : ∀ w : List UInt8, ((((m ++ (⟨#[32]⟩ : ByteArray)) ++ t) ++ (⟨#[32]⟩ : ByteArray)) ++ ofL w) = ofL (toL m ++ 32 :: (toL t ++ 32 :: w)) := fun w => by
    apply toL_inj
    simp only [toL_append, toL_ofL]
    show toL m ++ [32] ++ toL t ++ [32] ++ w = _
    simp
  have s1 : (m ++ (⟨#[32]⟩ : ByteArray)).size = m.size + 1 := ByteArray.size_append
  have s2 : ((m ++ (⟨#[32]⟩ : ByteArray)) ++ t).size = m.size + 1 + t.size := by rw [ByteArray.size_append, s1]
  have s3 : (((m ++ (⟨#[32]⟩ : ByteArray)) ++ t) ++ (⟨#[32]⟩ : ByteArray)).size = m.size + 1 + t.size + 1 := by rw [ByteArray.size_append, s2]; rfl
  unfold reqline_Text.f verOf
  by_cases hmi : mi = 0
  · rw [if_pos hmi, if_pos (by omega), if_pos (by omega), if_pos (by omega), if_pos (by omega), if_pos hmi]
    exact congrArg some (e _)
  · rw [if_neg hmi, if_pos (by omega), if_pos (by omega), if_pos (by omega), if_pos (by omega), if_neg hmi]
    exact congrArg some (e _)
theorem refText_f (m t : ByteArray) (mi : Int) (h : m.size + t.size ≤ 1000000) : doorkeeperref10_Text.f m t mi = some (ofL (toL m ++ 32 :: (toL t ++ 32 :: verOf mi))) := by
  have e : ∀ w : List UInt8, (((m ++ (⟨#[32]⟩ : ByteArray)) ++ t) ++ ofL (32 :: w)) = ofL (toL m ++ 32 :: (toL t ++ 32 :: w)) := fun w => by
    apply toL_inj
    simp only [toL_append, toL_ofL]
    show toL m ++ [32] ++ toL t ++ 32 :: w = _
    simp
  have s1 : (m ++ (⟨#[32]⟩ : ByteArray)).size = m.size + 1 := ByteArray.size_append
  have s2 : ((m ++ (⟨#[32]⟩ : ByteArray)) ++ t).size = m.size + 1 + t.size := by rw [ByteArray.size_append, s1]
  unfold doorkeeperref10_Text.f verOf
  by_cases hmi : mi = 0
  · rw [if_pos hmi, if_pos (by omega), if_pos (by omega), if_pos (by omega), if_pos hmi]
    exact congrArg some (e _)
  · rw [if_neg hmi, if_pos (by omega), if_pos (by omega), if_pos (by omega), if_neg hmi]
    exact congrArg some (e _)

theorem split_append (c : UInt8) (x y : List UInt8) : splitL c (x ++ c :: y) = splitL c x ++ splitL c y := by
  induction x with
  | nil => simp [splitL]
  | cons a r ih =>
    simp only [List.cons_append, splitL]
    by_cases e : a = c
    · rw [if_pos e, if_pos e, ih]; rfl
    · rw [if_neg e, if_neg e, ih]
      have h := splitL_ne c r
      cases hs : splitL c r with
      | nil => exact absurd hs h
      | cons p ps => simp
theorem split_one {c : UInt8} {l : List UInt8} (h : (splitL c l).length = 1) : splitL c l = [l] := by
  have hg := glue_split c l
  match hq : splitL c l, h with
  | [p], _ => rw [hq] at hg; rw [← hg]; rfl
theorem split_ver (mi : Int) : splitL 32 (verOf mi) = [verOf mi] := by unfold verOf; split <;> decide
/-- a text of three parts that has three parts. -/
theorem three_same {m t : List UInt8} {mi : Int} {a b c : List UInt8} (h : splitL 32 (m ++ 32 :: (t ++ 32 :: verOf mi)) = [a, b, c]) : a = m ∧ b = t ∧ c = verOf mi := by
  rw [split_append, split_append, split_ver] at h
  have hl := congrArg List.length h
  have n1 := List.length_pos_iff.2 (splitL_ne 32 m)
  have n2 := List.length_pos_iff.2 (splitL_ne 32 t)
  simp only [List.length_append, List.length_cons, List.length_nil] at hl
  rw [split_one (c := 32) (l := m) (by omega), split_one (c := 32) (l := t) (by omega)] at h
  simp only [List.cons_append, List.nil_append, List.cons.injEq, and_true] at h
  exact ⟨h.1.symm, h.2.1.symm, h.2.2.symm⟩

end Go.Proofs.YtiolgglipcijpaaDoor.QPure
end

section
namespace Go.Proofs.YtiolgglipcijpaaDoor.QPure
open Go Go.RowKit Go.Proofs.YtiolgglipcijpaaDoorW.PrintWords Go.Proofs.YtiolgglipcijpaaDoor.PB Go.Proofs.YtiolgglipcijpaaDoor.P Go.Proofs.YtiolgglipcijpaaDoor.LSpec Go.Proofs.YtiolgglipcijpaaDoor.RSpec Go.Proofs.YtiolgglipcijpaaDoor.QRef
open Go.Proofs.YtiolgglipcijpaaDoor.ROct (isTok isVis)

def vd (a b : Nat) : List UInt8 := [72, 84, 84, 80, 47, UInt8.ofNat (48 + a), 46, UInt8.ofNat (48 + b)]
theorem dig_ex : ∀ a : Fin 10, ((⟨#[48, 49, 50, 51, 52, 53, 54, 55, 56, 57]⟩ : ByteArray).extract a.val (a.val + 1)).toList = [UInt8.ofNat (48 + a.val)] := by decide +kernel
theorem dig_eq (a : Nat) (h : a < 10) : (⟨#[48, 49, 50, 51, 52, 53, 54, 55, 56, 57]⟩ : ByteArray).extract a (a + 1) = ofL [UInt8.ofNat (48 + a)] := by
  apply toL_inj
  rw [← toList_toL, toL_ofL]
  exact dig_ex ⟨a, h⟩
theorem vd_ver : ∀ a b : Fin 10, verL (vd a.val b.val) = true := by decide +kernel
theorem vd_sup : ∀ a b : Fin 10, supL (vd a.val b.val) = (a.val == 1 && decide (b.val ≤ 1)) := by decide +kernel
theorem vd_split : ∀ a b : Fin 10, splitL 32 (vd a.val b.val) = [vd a.val b.val] := by decide +kernel
theorem vd_line (m t : List UInt8) (a b : Nat) (ha : a < 10) (hb : b < 10) (h0 : isTok (ofL m) = true) (h1 : isVis (ofL t) = true) :
    lineL m t (vd a b) = if a = 1 ∧ b ≤ 1 then (ofL m, ofL t, (b : Int), none) else bad 505 (m.length + t.length + 2) := by
  have hv := vd_ver ⟨a, ha⟩ ⟨b, hb⟩
  have hs := vd_sup ⟨a, ha⟩ ⟨b, hb⟩
  simp only at hv hs
  unfold lineL
  rw [h0, h1, hv, hs]
  by_cases h : a = 1 ∧ b ≤ 1
  · obtain ⟨rfl, hb1⟩ := h
    rw [if_pos (show 1 = 1 ∧ b ≤ 1 from ⟨rfl, hb1⟩)]
    have : b = 0 ∨ b = 1 := by omega
    rcases this with rfl | rfl <;> simp [vd]
  · rw [if_neg h]
    have : (a == 1 && decide (b ≤ 1)) = false := by
      rw [Bool.eq_false_iff]
      intro hh
      simp at hh
      exact h hh
    simp [this]
theorem ok_parts (m t v : List UInt8) (h : ∃ x, lineR m t v = x ∧ x.2.2.2.1 = 0) : isTok (ofL m) = true ∧ isVis (ofL t) = true := by
  obtain ⟨x, hx, h0⟩ := h
  unfold lineR at hx
  cases a : isTok (ofL m) with
  | false => rw [a, if_pos rfl] at hx; rw [← hx] at h0; exact absurd h0 (by decide)
  | true =>
    cases b : isVis (ofL t) with
    | false => rw [a, b, if_neg (by simp), if_pos rfl] at hx; rw [← hx] at h0; exact absurd h0 (by show ¬ (400 : Int) = 0; decide)
    | true => exact ⟨rfl, rfl⟩

theorem vsz (m t : ByteArray) (hm : m.size ≤ 60) (ht : t.size ≤ 500) (v : List UInt8) (hv : v.length = 8) : (ofL (toL m ++ 32 :: (toL t ++ 32 :: v))).size ≤ 100000 := by
  rw [size_ofL]
  simp only [List.length_append, List.length_cons, toL_length, hv]
  omega
theorem vd_length (a b : Nat) : (vd a b).length = 8 := rfl
theorem one_size (c : UInt8) : (ofL [c]).size = 1 := rfl
theorem vX (m t : ByteArray) (a b : Nat) : (((((m ++ (⟨#[32]⟩ : ByteArray)) ++ t) ++ (⟨#[32, 72, 84, 84, 80, 47]⟩ : ByteArray)) ++ ofL [UInt8.ofNat (48 + a)]) ++ (⟨#[46]⟩ : ByteArray)) ++ ofL [UInt8.ofNat (48 + b)] = ofL (toL m ++ 32 :: (toL t ++ 32 :: vd a b)) := by
  apply toL_inj
  simp only [toL_append, toL_ofL]
  show toL m ++ [32] ++ toL t ++ [32, 72, 84, 84, 80, 47] ++ [UInt8.ofNat (48 + a)] ++ [46] ++ [UInt8.ofNat (48 + b)] = _
  simp [vd]
theorem vR (m t : ByteArray) : ((m ++ (⟨#[32]⟩ : ByteArray)) ++ t) ++ (⟨#[32, 72, 84, 84, 80, 47, 49, 46, 49]⟩ : ByteArray) = ofL (toL m ++ 32 :: (toL t ++ 32 :: verOf 1)) := by
  apply toL_inj
  simp only [toL_append, toL_ofL]
  show toL m ++ [32] ++ toL t ++ [32, 72, 84, 84, 80, 47, 49, 46, 49] = _
  simp [verOf]
theorem vs1 (m : ByteArray) : (m ++ (⟨#[32]⟩ : ByteArray)).size = m.size + 1 := ByteArray.size_append
theorem vs2 (m t : ByteArray) : ((m ++ (⟨#[32]⟩ : ByteArray)) ++ t).size = m.size + 1 + t.size := by rw [ByteArray.size_append, vs1]
theorem vs3 (m t : ByteArray) : (((m ++ (⟨#[32]⟩ : ByteArray)) ++ t) ++ (⟨#[32, 72, 84, 84, 80, 47]⟩ : ByteArray)).size = m.size + 1 + t.size + 6 := by rw [ByteArray.size_append, vs2]; rfl
theorem vs4 (m t : ByteArray) (c : UInt8) : ((((m ++ (⟨#[32]⟩ : ByteArray)) ++ t) ++ (⟨#[32, 72, 84, 84, 80, 47]⟩ : ByteArray)) ++ ofL [c]).size = m.size + 1 + t.size + 6 + 1 := by rw [ByteArray.size_append, vs3, one_size]
theorem vs5 (m t : ByteArray) (c : UInt8) : (((((m ++ (⟨#[32]⟩ : ByteArray)) ++ t) ++ (⟨#[32, 72, 84, 84, 80, 47]⟩ : ByteArray)) ++ ofL [c]) ++ (⟨#[46]⟩ : ByteArray)).size = m.size + 1 + t.size + 6 + 1 + 1 := by rw [ByteArray.size_append, vs4]; rfl


end Go.Proofs.YtiolgglipcijpaaDoor.QPure
end

section
namespace Go.Proofs.YtiolgglipcijpaaDoor.RVers
open Go Go.RowKit Go.Proofs.YtiolgglipcijpaaDoorW.PrintWords Go.Proofs.YtiolgglipcijpaaDoor.PB Go.Proofs.YtiolgglipcijpaaDoor.P Go.Proofs.YtiolgglipcijpaaDoor.LSpec Go.Proofs.YtiolgglipcijpaaDoor.RSpec Go.Proofs.YtiolgglipcijpaaDoor.QRef Go.Proofs.YtiolgglipcijpaaDoor.QPure
open Go.Proofs.YtiolgglipcijpaaDoor.ROct (isTok isVis)

set_option maxHeartbeats 4000000 in
set_option maxRecDepth 100000 in
theorem asleep1 (m t : ByteArray) (x2 x3 : Int) (w : World) (hG : Glob w) (hm : 60 < m.size) :
    Calls Tryd.prog 7 #[.string m, .string t, .int .u8 x2, .int .u8 x3] w fun e w' => e = .returned (.bool true) ∧ Below w.heap.size w w' := by
  have h0 : decide (60 < (m.size : Int)) = true := by simp; omega
  go_enter Tryd.func7, Tryd.ntmps7
  go_wp2_with (first | (go_at_call 11; refine (doorkeeperlaw10_awake.calls true _ aw10 hG).mono ?_; rintro e w1 ⟨rfl, hb1⟩) | (go_at_call 11; refine (doorkeeperlaw10_awake.calls true _ aw10 (hG.below hb1)).mono ?_; rintro e w2 ⟨rfl, hb2⟩))
  go_ret
  exact ⟨rfl, below_step hb1 hb2⟩
set_option maxHeartbeats 4000000 in
set_option maxRecDepth 100000 in
theorem asleep2 (m t : ByteArray) (x2 x3 : Int) (w : World) (hG : Glob w) (hm : m.size ≤ 60) (ht : 500 < t.size) :
    Calls Tryd.prog 7 #[.string m, .string t, .int .u8 x2, .int .u8 x3] w fun e w' => e = .returned (.bool true) ∧ Below w.heap.size w w' := by
  have h0 : decide (60 < (m.size : Int)) = false := by simp; omega
  have h1 : decide (500 < (t.size : Int)) = true := by simp; omega
  go_enter Tryd.func7, Tryd.ntmps7
  go_wp2_with (first | (go_at_call 11; refine (doorkeeperlaw10_awake.calls true _ aw10 hG).mono ?_; rintro e w1 ⟨rfl, hb1⟩) | (go_at_call 11; refine (doorkeeperlaw10_awake.calls true _ aw10 (hG.below hb1)).mono ?_; rintro e w2 ⟨rfl, hb2⟩))
  go_ret
  exact ⟨rfl, below_step hb1 hb2⟩

abbrev digs : ByteArray := ⟨#[48, 49, 50, 51, 52, 53, 54, 55, 56, 57]⟩
set_option maxHeartbeats 4000000 in
set_option maxRecDepth 100000 in
/-- the reference refuses the text with the version 1.1. -/
theorem no_line (m t : ByteArray) (x2 x3 : Int) (w : World) (hG : Glob w) (hm : m.size ≤ 60) (ht : t.size ≤ 500) (a b : Nat) (ha : a < 10) (hb : b < 10) (hxa : (wrap64 x2).tmod 10 = (a : Int)) (hxb : (wrap64 x3).tmod 10 = (b : Int))
    (k : Nat) (r1 r2 : ByteArray) (r3 r4 r5 : Int) (hR : doorkeeperref10_Parse.f k (m ++ (⟨#[32]⟩ : ByteArray) ++ t ++ (⟨#[32, 72, 84, 84, 80, 47, 49, 46, 49]⟩ : ByteArray)) = some (r1, r2, r3, r4, r5)) (h4 : (r4 == 0) = false) (h4' : (r4 != 0) = true) :
    Calls Tryd.prog 7 #[.string m, .string t, .int .u8 x2, .int .u8 x3] w fun e w' => e = .returned (.bool true) ∧ Below w.heap.size w w' := by
  have HXA := Lib.hid hxa
  have HXB := Lib.hid hxb
  have HR := Lib.hid hR
  clear hxa hxb hR
  have h0 : decide (60 < (m.size : Int)) = false := by simp; omega
  have h1 : decide (500 < (t.size : Int)) = false := by simp; omega
  go_enter Tryd.func7, Tryd.ntmps7
  go_wp2_with (first | (go_at_call 11; refine (doorkeeperlaw10_awake.calls true _ aw10 hG).mono ?_; rintro e w1 ⟨rfl, hb1⟩))
  rw [HXA.out, HXB.out]
  have ia0 : (0 ≤ (a : Int)) = True := by simp
  have ia1 : ((a : Int) ≤ (a : Int) + 1) = True := by simp; omega
  have ia2 : ((a : Int) + 1 ≤ 10) = True := by simp; omega
  have ib1 : ((b : Int) ≤ (b : Int) + 1) = True := by simp; omega
  have ib2 : ((b : Int) + 1 ≤ 10) = True := by simp; omega
  go_quiet (fail)
  go_wp2_with (first | (go_at_call 13; refine (doorkeeperref10_Parse.calls k _ r1 r2 r3 r4 r5 _ HR.out).mono ?_; rintro e w2 ⟨rfl, hb2⟩))
  go_ret
  exact ⟨rfl, below_alloc (below_step (pw_below_drewN hb1 _) hb2) _⟩
set_option maxHeartbeats 4000000 in
set_option maxRecDepth 100000 in
/-- the versions that are served. -/
theorem good (m t : ByteArray) (x2 x3 : Int) (w : World) (hG : Glob w) (hm : m.size ≤ 60) (ht : t.size ≤ 500) (a b : Nat) (ha : a < 10) (hb : b < 10) (hxa : (wrap64 x2).tmod 10 = (a : Int)) (hxb : (wrap64 x3).tmod 10 = (b : Int))
    (k : Nat) (r1 r2 : ByteArray) (r3 r5 : Int) (hR : doorkeeperref10_Parse.f k (m ++ (⟨#[32]⟩ : ByteArray) ++ t ++ (⟨#[32, 72, 84, 84, 80, 47, 49, 46, 49]⟩ : ByteArray)) = some (r1, r2, r3, 0, r5))
    (hP : reqline_Parse.f (m ++ (⟨#[32]⟩ : ByteArray) ++ t ++ (⟨#[32, 72, 84, 84, 80, 47]⟩ : ByteArray) ++ digs.extract a (a + 1) ++ (⟨#[46]⟩ : ByteArray) ++ digs.extract b (b + 1)) = some (m, t, (b : Int), none)) (h1 : ((a : Int) == 1) = true) (h2 : decide ((b : Int) ≤ 1) = true) :
    Calls Tryd.prog 7 #[.string m, .string t, .int .u8 x2, .int .u8 x3] w fun e w' => e = .returned (.bool true) ∧ Below w.heap.size w w' := by
  have HXA := Lib.hid hxa
  have HXB := Lib.hid hxb
  have HR := Lib.hid hR
  have HP := Lib.hid hP
  clear hxa hxb hR hP
  have h0 : decide (60 < (m.size : Int)) = false := by simp; omega
  have h1' : decide (500 < (t.size : Int)) = false := by simp; omega
  go_enter Tryd.func7, Tryd.ntmps7
  go_wp2_with (first | (go_at_call 11; refine (doorkeeperlaw10_awake.calls true _ aw10 hG).mono ?_; rintro e w1 ⟨rfl, hb1⟩))
  rw [HXA.out, HXB.out]
  have ia0 : (0 ≤ (a : Int)) = True := by simp
  have ia1 : ((a : Int) ≤ (a : Int) + 1) = True := by simp; omega
  have ia2 : ((a : Int) + 1 ≤ 10) = True := by simp; omega
  have ib1 : ((b : Int) ≤ (b : Int) + 1) = True := by simp; omega
  have ib2 : ((b : Int) + 1 ≤ 10) = True := by simp; omega
  go_quiet (fail)
  go_wp2_with (first | (go_at_call 13; refine (doorkeeperref10_Parse.calls k _ r1 r2 r3 0 r5 _ HR.out).mono ?_; rintro e w2 ⟨rfl, hb2⟩) | (go_at_call 12; refine (reqline_Parse.calls _ m t (b : Int) none _ HP.out (hG.below (below_alloc (below_step (pw_below_drewN hb1 _) hb2) _))).mono ?_; rintro e w3 ⟨rfl, hb3⟩; simp only [errW_none]))
  go_ret
  exact ⟨rfl, below_alloc (below_step (below_alloc (below_step (pw_below_drewN hb1 _) hb2) _) hb3) _⟩
set_option maxHeartbeats 4000000 in
set_option maxRecDepth 100000 in
/-- the versions that are not served. -/
theorem wrongs (m t : ByteArray) (x2 x3 : Int) (w : World) (hG : Glob w) (hm : m.size ≤ 60) (ht : t.size ≤ 500) (a b : Nat) (ha : a < 10) (hb : b < 10) (hxa : (wrap64 x2).tmod 10 = (a : Int)) (hxb : (wrap64 x3).tmod 10 = (b : Int))
    (k : Nat) (r1 r2 : ByteArray) (r3 r5 : Int) (hR : doorkeeperref10_Parse.f k (m ++ (⟨#[32]⟩ : ByteArray) ++ t ++ (⟨#[32, 72, 84, 84, 80, 47, 49, 46, 49]⟩ : ByteArray)) = some (r1, r2, r3, 0, r5)) (q1 q2 : ByteArray) (q3 : Int) (q4 : Option Int)
    (hP : reqline_Parse.f (m ++ (⟨#[32]⟩ : ByteArray) ++ t ++ (⟨#[32, 72, 84, 84, 80, 47]⟩ : ByteArray) ++ digs.extract a (a + 1) ++ (⟨#[46]⟩ : ByteArray) ++ digs.extract b (b + 1)) = some (q1, q2, q3, q4)) (hW : doorkeeperlaw10_wrong.f q4 505 ((m.size : Int) + (t.size : Int) + 2) = some true)
    (h : ((a : Int) == 1) = false ∨ ((a : Int) == 1) = true ∧ decide ((b : Int) ≤ 1) = false) :
    Calls Tryd.prog 7 #[.string m, .string t, .int .u8 x2, .int .u8 x3] w fun e w' => e = .returned (.bool true) ∧ Below w.heap.size w w' := by
  have HXA := Lib.hid hxa
  have HXB := Lib.hid hxb
  have HR := Lib.hid hR
  have HP := Lib.hid hP
  have HW := Lib.hid hW
  clear hxa hxb hR hP hW
  have h0 : decide (60 < (m.size : Int)) = false := by simp; omega
  have h1' : decide (500 < (t.size : Int)) = false := by simp; omega
  go_enter Tryd.func7, Tryd.ntmps7
  go_wp2_with (first | (go_at_call 11; refine (doorkeeperlaw10_awake.calls true _ aw10 hG).mono ?_; rintro e w1 ⟨rfl, hb1⟩))
  rw [HXA.out, HXB.out]
  have ia0 : (0 ≤ (a : Int)) = True := by simp
  have ia1 : ((a : Int) ≤ (a : Int) + 1) = True := by simp; omega
  have ia2 : ((a : Int) + 1 ≤ 10) = True := by simp; omega
  have ib1 : ((b : Int) ≤ (b : Int) + 1) = True := by simp; omega
  have ib2 : ((b : Int) + 1 ≤ 10) = True := by simp; omega
  go_quiet (fail)
  rcases h with h1 | ⟨h1, h2⟩
  all_goals
    go_wp2_with (first | (go_at_call 13; refine (doorkeeperref10_Parse.calls k _ r1 r2 r3 0 r5 _ HR.out).mono ?_; rintro e w2 ⟨rfl, hb2⟩) | (go_at_call 12; refine (reqline_Parse.calls _ q1 q2 q3 q4 _ HP.out (hG.below (below_alloc (below_step (pw_below_drewN hb1 _) hb2) _))).mono ?_; rintro e w3 ⟨rfl, hb3⟩) | (go_at_call 14; refine (doorkeeperlaw10_wrong.calls q4 505 _ true _ HW.out (hG.below (below_alloc (below_step (below_alloc (below_step (pw_below_drewN hb1 _) hb2) _) hb3) _))).mono ?_; rintro e w4 ⟨rfl, hb4⟩))
    go_ret
    exact ⟨rfl, below_step (below_alloc (below_step (below_alloc (below_step (pw_below_drewN hb1 _) hb2) _) hb3) _) hb4⟩

set_option maxRecDepth 100000 in
/-- the walk. -/
theorem walk (m t : ByteArray) (x2 x3 : Int) (h2 : 0 ≤ x2 ∧ x2 ≤ 255) (h3 : 0 ≤ x3 ∧ x3 ≤ 255) (w : World) (hG : Glob w) :
    Calls Tryd.prog 7 #[.string m, .string t, .int .u8 x2, .int .u8 x3] w fun e w' => e = .returned (.bool true) ∧ Below w.heap.size w w' := by
  by_cases hm : 60 < m.size
  · exact asleep1 m t x2 x3 w hG hm
  by_cases ht : 500 < t.size
  · exact asleep2 m t x2 x3 w hG (by omega) ht
  have hm := Nat.le_of_not_lt hm
  have ht := Nat.le_of_not_lt ht
  obtain ⟨n2, rfl⟩ : ∃ n : Nat, x2 = (n : Int) := ⟨x2.toNat, by omega⟩
  obtain ⟨n3, rfl⟩ : ∃ n : Nat, x3 = (n : Int) := ⟨x3.toNat, by omega⟩
  have hxa : (wrap64 (n2 : Int)).tmod 10 = ((n2 % 10 : Nat) : Int) := by rw [wrap64_ok (by omega) (by omega)]; rfl
  have hxb : (wrap64 (n3 : Int)).tmod 10 = ((n3 % 10 : Nat) : Int) := by rw [wrap64_ok (by omega) (by omega)]; rfl
  have l2 : n2 % 10 < 10 := Nat.mod_lt _ (by omega)
  have l3 : n3 % 10 < 10 := Nat.mod_lt _ (by omega)
  generalize n2 % 10 = a at hxa l2
  generalize n3 % 10 = b at hxb l3
  have hz := vsz m t hm ht (verOf 1) (ver_length 1)
  have hz2 := vsz m t hm ht (vd a b) (vd_length a b)
  have hR := parse_ev _ (Nat.le_trans hz (by omega))
  rw [toL_ofL, ← vR] at hR
  obtain ⟨k, hR⟩ := hR.rounds
  have hP : reqline_Parse.f (ofL (toL m ++ 32 :: (toL t ++ 32 :: vd a b))) = some (parseL (toL m ++ 32 :: (toL t ++ 32 :: vd a b))) := if_pos hz2
  rw [← vX, ← dig_eq a l2, ← dig_eq b l3] at hP
  rcases both (toL m ++ 32 :: (toL t ++ 32 :: verOf 1)) with ⟨m', t', mi', hmi, _, k2, _, k4⟩ | ⟨st, at_, hst, _, k2⟩
  · rw [k2] at hR
    have hl := congrArg List.length k4
    rw [split_append, split_append, split_ver] at hl
    have p1 := List.length_pos_iff.2 (splitL_ne 32 (toL m))
    have p2 := List.length_pos_iff.2 (splitL_ne 32 (toL t))
    simp only [List.length_append, List.length_cons, List.length_nil] at hl
    have o1 := split_one (c := 32) (l := toL m) (by omega)
    have o2 := split_one (c := 32) (l := toL t) (by omega)
    have hpL : parseL (toL m ++ 32 :: (toL t ++ 32 :: vd a b)) = lineL (toL m) (toL t) (vd a b) := by
      unfold parseL
      rw [split_append, split_append, o1, o2, vd_split ⟨a, l2⟩ ⟨b, l3⟩]
      rfl
    have hpR : parseR (toL m ++ 32 :: (toL t ++ 32 :: verOf 1)) = lineR (toL m) (toL t) (verOf 1) := by
      unfold parseR
      rw [split_append, split_append, o1, o2, split_ver]
      rfl
    obtain ⟨i0, i1⟩ := ok_parts (toL m) (toL t) (verOf 1) ⟨_, (hpR.symm.trans k2), rfl⟩
    rw [hpL, vd_line _ _ a b l2 l3 i0 i1] at hP
    by_cases h : a = 1 ∧ b ≤ 1
    · rw [if_pos h, ofL_toL, ofL_toL] at hP
      exact good m t n2 n3 w hG hm ht a b l2 l3 hxa hxb k _ _ _ _ hR hP (by simp; omega) (by simp; omega)
    · rw [if_neg h] at hP
      have hw := wrong_err 505 ((toL m).length + (toL t).length + 2) (by omega)
      rw [toL_length, toL_length] at hw hP
      have e : ((m.size + t.size + 2 : Nat) : Int) = (m.size : Int) + (t.size : Int) + 2 := by omega
      rw [e] at hw
      exact wrongs m t n2 n3 w hG hm ht a b l2 l3 hxa hxb k _ _ _ _ hR _ _ _ _ hP hw (by
        by_cases ha : a = 1
        · exact .inr ⟨by simp; omega, by simp; omega⟩
        · exact .inl (by simp; omega))
  · rw [k2] at hR
    exact no_line m t n2 n3 w hG hm ht a b l2 l3 hxa hxb k _ _ _ _ _ hR (by simp; omega) (by simp; omega)

/-- the row's contract. -/
theorem row (l0 : ByteArray) (_m0 : l0.size ≤ maxLen) (l1 : ByteArray) (_m1 : l1.size ≤ maxLen) (l2 : Int) (m2 : (Lit.int .u8 l2).wf = true) (l3 : Int) (m3 : (Lit.int .u8 l3).wf = true) (W : World) (hG : Glob W) :
    Calls Tryd.prog 7 #[.string l0, .string l1, .int .u8 l2, .int .u8 l3] W fun e w' => e = .returned (.bool true) ∧ Below W.heap.size W w' :=
  walk l0 l1 l2 l3 ((Lit.wf_int_iff .u8 l2).1 m2) ((Lit.wf_int_iff .u8 l3).1 m3) W hG

end Go.Proofs.YtiolgglipcijpaaDoor.RVers
end

section
namespace Go.Proofs.YtiolgglipcijpaaDoor.RLaid
open Go Go.RowKit Go.Proofs.YtiolgglipcijpaaDoorW.PrintWords Go.Proofs.YtiolgglipcijpaaDoor.P Go.Proofs.YtiolgglipcijpaaDoor.RErr

/-- 'returnsInHanded_of_change_and' with the world's shape besides. -/
theorem returnsInHanded_of_change_and_shaped {H : Type} {enc : TypeId × Value → H} {a : Assume} {C : Checked} {os : Os} {f : FuncId} {fn : Func} {s : ChangeSpec} {conds : List PathCond} {apart fresh handsOn again : Bool} {X : World → Array Value → Prop}
    (hX : ∀ (w w' : World) (args : Array Value), w.heap = w'.heap → X w args → X w' args)
    (own : ownKnob C.prog.godebug = none) (started : os.Started) (noInit : C.prog.inits.idxOf? f = none) (hfn : C.prog.funcs[f]? = some fn)
    (witness : ∃ (w : World) (tape : Tape) (i : Input), w.os = os ∧ (w.forCall tape i).Shaped C.prog ∧ i.vars = [] ∧ Input.okWide C.prog (w.forCall tape i) .any w.heap.size f i ∧
      ((s.pre enc C.prog fn conds apart (w.forCall tape i).memory i.args ∧ X (w.forCall tape i).memory i.args) ∧ sizedMet enc C.prog fn (OpenSpec.ofChange s) apart (w.forCall tape i).memory i.args) ∧ a.holds C.prog (lone (Frame.enter C.prog f i.args .normal) [] (w.forCall tape i)))
    (contract : ∀ (W : World) (base : Nat) (args : Array Value) (ds gs : List (DataW H)) (before : List MemPlace),
      (∀ (j : Nat) t v, fn.params[j]? = some t → args[j]? = some v → Value.okWide C.prog W .any base t v) →
      DataW.Whole enc C.prog fn.params.toList s.vars apart W args.toList ds gs before →
      conds.all (PathCond.test C.prog ⟨fn.params.toList, ds, s.plain.varTypes C.prog, gs⟩) = true →
      (DataW.weightsEach C.prog (fn.params.toList ++ s.plain.varTypes C.prog) (ds ++ gs)).all (· ≤ reachBytes) = true → X W args → W.ShapedOpen C.prog →
      a.holds C.prog (lone (Frame.enter C.prog f args .normal) [] W) →
      Calls C.prog f args W fun e W' => ∃ v, e = .returned v ∧ s.post enc C.prog fn apart fresh handsOn again W args v W') :
    ReturnsInHanded a C os f .any (fun w args => (s.pre enc C.prog fn conds apart w args ∧ X w args) ∧ sizedMet enc C.prog fn (OpenSpec.ofChange s) apart w args) (s.post enc C.prog fn apart fresh handsOn again) := by
  refine returnsInHanded_of_calls own started noInit witness ?_
  intro w tape i _ hsh _ hok hpre hholds
  obtain ⟨_, _, _, fn', hfn', _, _, _, _, hval⟩ := hok
  have e : fn' = fn := Option.some.inj (hfn'.symm.trans hfn)
  subst e
  obtain ⟨⟨⟨ds, gs, before, hw, hc⟩, hx⟩, hz⟩ := hpre
  have hw' := DataW.Whole.of_heap (w' := w.forCall tape i) (by rfl) hw
  refine (contract (w.forCall tape i) w.heap.size i.args ds gs before hval hw' hc (hz.weights hw) (hX _ _ _ (by rfl) hx) hsh hholds).mono fun e W' ⟨v, he, hp⟩ => ?_
  subst he
  exact ChangeSpec.post_blind hp

def L : List (String × DataW Unit) := Rows.reqlineKindsRow.laid
theorem gErr : Tryd.prog.globalNamed "errors.errorType" = some 2 := by kernel_rfl
theorem gOthers : Tryd.prog.globalNamed "doorkeeper/reqline.others" = some 1 := by kernel_rfl
theorem gRules : Tryd.prog.globalNamed "doorkeeper/reqline.rules" = some 0 := by kernel_rfl
theorem tOthers : (Tryd.prog.globals[1]?).map (·.type) = some 72 := by kernel_rfl
theorem tRules : (Tryd.prog.globals[0]?).map (·.type) = some 62 := by kernel_rfl
theorem rt : (Tryd.prog.cutTypes.find? (·.1 == "internal/reflectlite.rtype")).map (·.2) = some 174 := by kernel_rfl
theorem oneRow : ((List.range 237).filter fun t => Tryd.prog.rowNamed t [101, 114, 114, 111, 114]) = [26] := by kernel_rfl
theorem size : Tryd.prog.types.size = 237 := by kernel_rfl

theorem err_of {W : World} (h : laidMetH Tryd.prog L W) : W.cell? ⟨2, 0, none⟩ = some eT := by
  have h' := (laidMetH_iff.1 h).2
  obtain ⟨name, u, ty, e1, e2, e3, e4, e5⟩ := h' ("errors.errorType", Rows.laid_errors_errorType) (List.mem_filter.2 ⟨by simp [L, Rows.reqlineKindsRow], by rfl⟩)
  have en : name = [101, 114, 114, 111, 114] := (Option.some.inj e1).symm
  subst en
  obtain rfl := Option.some.inj (rt.symm.trans e2)
  have hm : ty ∈ (List.range 237).filter fun t => Tryd.prog.rowNamed t [101, 114, 114, 111, 114] := List.mem_filter.2 ⟨List.mem_range.2 (by rw [← size]; exact e3), e4⟩
  rw [oneRow] at hm
  obtain rfl := List.mem_singleton.1 hm
  have hh : typeHandle Tryd.prog 26 = .pointer (some ⟨7, 26, none⟩) := by kernel_rfl
  rw [hh] at e5
  simpa [eT] using World.var?_cell gErr e5 0

theorem others_of {W : World} (h : laidMetH Tryd.prog L W) (j : Nat) (hj : j < 6) : ∃ s : ByteArray, W.cell? ⟨1, j, none⟩ = some (.string s) ∧
    some (s.data.toList) = [[80, 79, 83, 84], [80, 85, 84], [68, 69, 76, 69, 84, 69], [80, 65, 84, 67, 72], [84, 82, 65, 67, 69], [67, 79, 78, 78, 69, 67, 84]][j]? := by
  have h1 := (laidMetH_iff.1 h).1.filter (fun x => x.1 == "doorkeeper/reqline.others")
  have e : ((L.filter fun x => x.2.handleName?.isNone).filter fun x => x.1 == "doorkeeper/reqline.others") = [("doorkeeper/reqline.others", Rows.laid_doorkeeper_reqline_others)] := by kernel_rfl
  rw [e] at h1
  obtain ⟨ps, hv, _⟩ := h1
  obtain ⟨g, t, cs, fuel, p, q, hg, ht, hvar, htr, _, _⟩ := hv
  obtain rfl := Option.some.inj (gOthers.symm.trans hg)
  obtain rfl := Option.some.inj (tOthers.symm.trans ht)
  obtain ⟨xs, m, _, ex, hlen, hl, hel⟩ := DataW.trod_array Tryd.underlying72 htr
  have hx := hel j hj
  have hc9 : Tryd.prog.cellsOf 9 = 1 := by kernel_rfl
  rw [hc9, Nat.mul_one] at hx
  have hjx : j < xs.length := by omega
  rw [List.getElem?_eq_getElem hjx] at hx
  obtain ⟨s, hs, hy, _⟩ := DataW.trod_string Tryd.underlying9 hx
  refine ⟨s, ?_, ?_⟩
  · have hcell := World.var?_cell gOthers hvar j
    have hcs : cs[j]? = some (.string s) := by
      have : (cs.toList.drop j).take 1 = [.string s] := hs
      have h2 : cs.toList[j]? = some (.string s) := by
        have := congrArg (fun l => l[0]?) this
        simpa [List.getElem?_take, List.getElem?_drop] using this
      simpa using h2
    rw [hcs] at hcell
    simpa using hcell
  · have ex1 : (xs.map (·.1)) = [.lit (.string [80, 79, 83, 84]), .lit (.string [80, 85, 84]), .lit (.string [68, 69, 76, 69, 84, 69]), .lit (.string [80, 65, 84, 67, 72]), .lit (.string [84, 82, 65, 67, 69]), .lit (.string [67, 79, 78, 78, 69, 67, 84])] := by
      have := congrArg Prod.fst ex
      simp only [Rows.laid_doorkeeper_reqline_others, DataW.agg.injEq] at this
      exact this.symm
    have hg2 : (xs.map (·.1))[j]? = some (.lit (.string s.data.toList)) := by rw [List.getElem?_map, List.getElem?_eq_getElem hjx, hy]; rfl
    rw [ex1] at hg2
    match j, hj with
    | 0, _ => simp at hg2; simp [hg2]
    | 1, _ => simp at hg2; simp [hg2]
    | 2, _ => simp at hg2; simp [hg2]
    | 3, _ => simp at hg2; simp [hg2]
    | 4, _ => simp at hg2; simp [hg2]
    | 5, _ => simp at hg2; simp [hg2]

def RULESD : DataW Unit := .agg [.agg [.lit (.int .i64 0), .iface "func" (.lit (.string [100, 111, 111, 114, 107, 101, 101, 112, 101, 114, 47, 111, 99, 116, 101, 116, 46, 73, 115, 84, 111, 107, 101, 110])), .lit (.int .i64 400)], .agg [.lit (.int .i64 1), .iface "func" (.lit (.string [100, 111, 111, 114, 107, 101, 101, 112, 101, 114, 47, 114, 101, 113, 108, 105, 110, 101, 46, 114, 117, 108, 101, 115, 36, 49])), .lit (.int .i64 400)], .agg [.lit (.int .i64 2), .iface "func" (.lit (.string [100, 111, 111, 114, 107, 101, 101, 112, 101, 114, 47, 114, 101, 113, 108, 105, 110, 101, 46, 118, 101, 114, 115, 105, 111, 110])), .lit (.int .i64 400)], .agg [.lit (.int .i64 2), .iface "func" (.lit (.string [100, 111, 111, 114, 107, 101, 101, 112, 101, 114, 47, 114, 101, 113, 108, 105, 110, 101, 46, 115, 117, 112, 112, 111, 114, 116, 101, 100])), .lit (.int .i64 505)]]

set_option maxRecDepth 100000 in
theorem row_of {W : World} {m : Nat} {c : List Value} {y : DataW (List UInt8) × List MemPlace} {a st : Int} {b : UInt8} {r : List UInt8} {f0 : FuncId}
    (h : DataW.trod (funcToken Tryd.prog) Tryd.prog W 0 (fun _ => true) true m 61 c = some y) (hy : y.1 = .agg [.lit (.int .i64 a), .held (b :: r), .lit (.int .i64 st)])
    (hone : ((List.range Tryd.prog.funcs.size).filter fun f => (Tryd.prog.funcs[f]?).any (·.name.toUTF8.data.toList == b :: r)) = [f0]) : c = [.int .i64 a, .func (.func f0) #[] #[], .int .i64 st] := by
  obtain ⟨ys, n, _, hx, hlen, hl, hf⟩ := DataW.trod_struct Tryd.underlying61 h
  have c61 : Tryd.prog.cellsOf 61 = 3 := by kernel_rfl
  have c3 : Tryd.prog.cellsOf 3 = 1 := by kernel_rfl
  have c34 : Tryd.prog.cellsOf 34 = 1 := by kernel_rfl
  have c59 : Tryd.prog.cellsOf 59 = 1 := by kernel_rfl
  rw [c61] at hlen
  have h0 := hf 0 _ rfl
  have h1 := hf 1 _ rfl
  have h2 := hf 2 _ rfl
  change DataW.trod (funcToken Tryd.prog) Tryd.prog W 0 (fun _ => true) true n 3 ((c.drop 0).take (Tryd.prog.cellsOf 3)) = ys[0]? at h0
  change DataW.trod (funcToken Tryd.prog) Tryd.prog W 0 (fun _ => true) true n 34 ((c.drop 1).take (Tryd.prog.cellsOf 34)) = ys[1]? at h1
  change DataW.trod (funcToken Tryd.prog) Tryd.prog W 0 (fun _ => true) true n 59 ((c.drop 2).take (Tryd.prog.cellsOf 59)) = ys[2]? at h2
  rw [c3] at h0
  rw [c34] at h1
  rw [c59] at h2
  match c, hlen with
  | [x0, x1, x2], _ =>
    match ys, hl with
    | [y0, y1, y2], _ =>
      rw [hx] at hy
      simp only [List.map_cons, List.map_nil, DataW.agg.injEq, List.cons.injEq, and_true] at hy
      obtain ⟨e0, e1, e2⟩ := hy
      have h0' : DataW.trod (funcToken Tryd.prog) Tryd.prog W 0 (fun _ => true) true n 3 [x0] = some y0 := h0
      have h1' : DataW.trod (funcToken Tryd.prog) Tryd.prog W 0 (fun _ => true) true n 34 [x1] = some y1 := h1
      have h2' : DataW.trod (funcToken Tryd.prog) Tryd.prog W 0 (fun _ => true) true n 59 [x2] = some y2 := h2
      obtain ⟨n0, k0, z0, _⟩ := DataW.trod_int Tryd.underlying3 h0'
      obtain ⟨n2, k2, z2, _⟩ := DataW.trod_int Tryd.underlying59 h2'
      rw [z0] at e0
      rw [z2] at e2
      simp only [DataW.lit.injEq, Lit.int.injEq, true_and] at e0 e2
      subst e0
      subst e2
      have h1'' : DataW.trod (funcToken Tryd.prog) Tryd.prog W 0 (fun _ => true) true n 34 [x1] = some (.held (b :: r), y1.2) := by rw [h1', ← e1]
      have := func_of_trod (f0 := f0) Tryd.underlying34 hone h1''
      simp only [List.cons.injEq, and_true] at k0 k2
      rw [this, k0, k2]

theorem rules_of {W : World} (h : laidMetH Tryd.prog L W) : ∃ cs : Array Value, W.var? Tryd.prog "doorkeeper/reqline.rules" = some cs ∧
    (cs.toList.drop 0).take 3 = [.int .i64 0, .func (.func 167) #[] #[], .int .i64 400] ∧ (cs.toList.drop 3).take 3 = [.int .i64 1, .func (.func 168) #[] #[], .int .i64 400] ∧
    (cs.toList.drop 6).take 3 = [.int .i64 2, .func (.func 171) #[] #[], .int .i64 400] ∧ (cs.toList.drop 9).take 3 = [.int .i64 2, .func (.func 172) #[] #[], .int .i64 505] := by
  obtain ⟨g, t, cs, fuel, p, hg, ht, hvar, htr⟩ := h.funcs (n := "doorkeeper/reqline.rules") (d := RULESD) (by simp [L, Rows.reqlineKindsRow, Rows.laid_doorkeeper_reqline_rules, RULESD])
  obtain rfl := Option.some.inj (gRules.symm.trans hg)
  obtain rfl := Option.some.inj (tRules.symm.trans ht)
  have c61 : Tryd.prog.cellsOf 61 = 3 := by kernel_rfl
  obtain ⟨xs, m, _, ex, hlen, hl, hel⟩ := DataW.trod_array Tryd.underlying62 htr
  rw [c61] at hel
  have h0 := hel 0 (by omega)
  have h1 := hel 1 (by omega)
  have h2 := hel 2 (by omega)
  have h3 := hel 3 (by omega)
  match xs, hl with
  | [x0, x1, x2, x3], _ =>
    have ex1 := congrArg Prod.fst ex
    have ex2 : [x0.1, x1.1, x2.1, x3.1] = [
      .agg [.lit (.int .i64 0), .held [100, 111, 111, 114, 107, 101, 101, 112, 101, 114, 47, 111, 99, 116, 101, 116, 46, 73, 115, 84, 111, 107, 101, 110], .lit (.int .i64 400)],
      .agg [.lit (.int .i64 1), .held [100, 111, 111, 114, 107, 101, 101, 112, 101, 114, 47, 114, 101, 113, 108, 105, 110, 101, 46, 114, 117, 108, 101, 115, 36, 49], .lit (.int .i64 400)],
      .agg [.lit (.int .i64 2), .held [100, 111, 111, 114, 107, 101, 101, 112, 101, 114, 47, 114, 101, 113, 108, 105, 110, 101, 46, 118, 101, 114, 115, 105, 111, 110], .lit (.int .i64 400)],
      .agg [.lit (.int .i64 2), .held [100, 111, 111, 114, 107, 101, 101, 112, 101, 114, 47, 114, 101, 113, 108, 105, 110, 101, 46, 115, 117, 112, 112, 111, 114, 116, 101, 100], .lit (.int .i64 505)]] := by
      simp only [List.map_cons, List.map_nil] at ex1
      exact (DataW.agg.inj ex1).symm
    simp only [List.cons.injEq, and_true] at ex2
    obtain ⟨e0, e1, e2, e3⟩ := ex2
    exact ⟨cs, hvar, row_of (f0 := 167) h0 e0 (by kernel_rfl), row_of (f0 := 168) h1 e1 (by kernel_rfl), row_of (f0 := 171) h2 e2 (by kernel_rfl), row_of (f0 := 172) h3 e3 (by kernel_rfl)⟩

theorem get_of {l : List Value} {k : Nat} {a b c : Value} (h : (l.drop k).take 3 = [a, b, c]) : l[k]? = some a ∧ l[k + 1]? = some b ∧ l[k + 2]? = some c := by
  have e : ∀ i, i < 3 → l[k + i]? = ([a, b, c] : List Value)[i]? := fun i hi => by
    rw [← h, List.getElem?_take_of_lt hi, List.getElem?_drop]
  exact ⟨e 0 (by omega), e 1 (by omega), e 2 (by omega)⟩
theorem most_of {W : World} (h : W.ShapedOpen Tryd.prog) : ∃ m : Int, W.cell? ⟨3, 0, none⟩ = some (.int .i64 m) :=
  cell_of_shapedOpen_int (g := 3) (t := 3) (zero := #[.int .i64 0]) h (of_decide_eq_true (by kernel_rfl)) (by kernel_rfl) rfl (by kernel_rfl) (by kernel_rfl) Tryd.underlying3
theorem glob_of {W : World} (h : laidMetH Tryd.prog L W) (hs : W.ShapedOpen Tryd.prog) : Glob W := by
  refine ⟨err_of h, fun j hj => ?_, fun j hj => ?_, most_of hs⟩
  · obtain ⟨s, hc, he⟩ := others_of h j hj
    rw [hc]
    congr 2
    have hb : ∀ (l : List UInt8), s.data.toList = l → s = ⟨l.toArray⟩ := fun l hl => by cases s; simp at hl; rw [← hl]
    match j, hj with
    | 0, _ => exact hb _ (Option.some.inj he)
    | 1, _ => exact hb _ (Option.some.inj he)
    | 2, _ => exact hb _ (Option.some.inj he)
    | 3, _ => exact hb _ (Option.some.inj he)
    | 4, _ => exact hb _ (Option.some.inj he)
    | 5, _ => exact hb _ (Option.some.inj he)
  · obtain ⟨cs, hv, k0, k1, k2, k3⟩ := rules_of h
    have hcell := World.var?_cell gRules hv j
    have a0 := get_of k0
    have a1 := get_of k1
    have a2 := get_of k2
    have a3 := get_of k3
    have hc : W.cell? ⟨0, j, none⟩ = cs.toList[j]? := by simpa using hcell
    rw [hc]
    match j, hj with
    | 0, _ => exact a0.1
    | 1, _ => exact a0.2.1
    | 2, _ => exact a0.2.2
    | 3, _ => exact a1.1
    | 4, _ => exact a1.2.1
    | 5, _ => exact a1.2.2
    | 6, _ => exact a2.1
    | 7, _ => exact a2.2.1
    | 8, _ => exact a2.2.2
    | 9, _ => exact a3.1
    | 10, _ => exact a3.2.1
    | 11, _ => exact a3.2.2
def LD : List (String × DataW Unit) := L.filter fun x => x.2.handleName?.isNone
/-- a world that meets the condition: the heap of the door's own run, the plain data laid into it. -/
noncomputable def wit (os : Os) : World := (World.doorLaid Tryd.prog 45 os).layVars Tryd.prog LD
theorem wit_os (os : Os) : (wit os).os = os := (World.layVars_os _ _ _).trans rfl
theorem wit_data (os : Os) : laidMet Tryd.prog LD (wit os) := by
  have e1 : (LD.filter fun x => (LD.map (·.1)).contains x.1) = LD := List.filter_eq_self.2 fun x hx => List.contains_iff_mem.2 (List.mem_map.2 ⟨x, hx, rfl⟩)
  have e2 : (LD.filter fun x => !(LD.map (·.1)).contains x.1) = [] := List.filter_eq_nil_iff.2 fun x hx => by rw [List.contains_iff_mem.2 (List.mem_map.2 ⟨x, hx, rfl⟩)]; simp
  exact laidMet_layVars (w0 := World.doorLaid Tryd.prog 45 os) (LD.map (·.1)) [] (by rw [e1]; rfl) (by rw [e1]; kernel_rfl) (by rw [e1]; kernel_rfl) (by rw [e2]; exact LaidIn.none)
theorem wit_met (os : Os) (args : Array Value) : laidMetH Tryd.prog L ((wit os).forCall (fun _ _ => 0) ⟨#[], args, []⟩).memory :=
  laidMetH_of_parts3 (fuel := 8) ((wit_data os).of_heap (by simp [World.memory, World.forCall, Input.heap])) (by kernel_rfl) (by kernel_rfl)

end Go.Proofs.YtiolgglipcijpaaDoor.RLaid
end

section
namespace Go.Proofs.YtiolgglipcijpaaDoor.reqlineVersionsR
open Go.ChangeShapes Go.WideShapes Go.ChangeAt Go.RowKit
open Go.ChangeMaps (open_string shut_string)
open Go.Proofs.YtiolgglipcijpaaDoorW.PrintWords
theorem own : ownKnob Tryd.prog.godebug = none := by kernel_rfl
set_option maxRecDepth 100000 in
theorem lifted (os : Os) (started : os.Started) (H : Type) (enc : TypeId × Value → H) :
    ReturnsInHanded {} Tryd.checked os 7 .any (fun w args => (Rows.reqlineVersionsSpec.pre enc Tryd.prog Tryd.f7 Rows.reqlineVersionsRow.domain false w args ∧ laidMetH Tryd.prog Rows.reqlineVersionsRow.laid w) ∧ sizedMet enc Tryd.prog Tryd.f7 (OpenSpec.ofChange Rows.reqlineVersionsSpec) false w args)
      (Rows.reqlineVersionsSpec.post enc Tryd.prog Tryd.f7 false true false false) := by
  refine RLaid.returnsInHanded_of_change_and_shaped (C := Tryd.checked) (X := fun w _ => laidMetH Tryd.prog Rows.reqlineVersionsRow.laid w) (fun _ _ _ hh h => h.of_heap hh) own started (by kernel_rfl) Tryd.func7
    (ChangeSpec.witness_shaped (enc := enc) (C := Tryd.checked) (os := os) (X := fun w _ => laidMetH Tryd.prog Rows.reqlineVersionsRow.laid w) false (RLaid.wit os) #[.string ByteArray.empty, .string ByteArray.empty, .int .u8 0, .int .u8 0] 8 (RLaid.wit_os os)
      (World.shaped_of_ZipB (by kernel_rfl) (by kernel_rfl)) (by kernel_rfl) (by kernel_rfl) (by kernel_rfl)
      (RLaid.wit_met os _)) ?_
  intro W base args ds gs before hval0 hW hcnd hsz0 hL0 hsh0 _
  have hG := RLaid.glob_of hL0 hsh0
  have hval : ∀ (j : Nat) t v, Tryd.f7.params[j]? = some t → args[j]? = some v → Value.okWide Tryd.prog W .any base t v := hval0
  have hW' := hW
  obtain ⟨p, q, hA0, hV, rfl, hfz, hnd⟩ := hW
  have hA : DataW.TrodAll enc Tryd.prog W 0 (fun _ => true) true Tryd.f7.params.toList args.toList ds p := hA0
  rw [Tryd.params7] at hA hval
  obtain ⟨v0, vs0, d0, ds0, p0, q0, hargs, rfl, rfl, h0, r0⟩ := trodAll_cons hA
  obtain ⟨v1, vs1, d1, ds1, p1, q1, rfl, rfl, rfl, h1, r1⟩ := trodAll_cons r0
  obtain ⟨v2, vs2, d2, ds2, p2, q2, rfl, rfl, rfl, h2, r2⟩ := trodAll_cons r1
  obtain ⟨v3, vs3, d3, ds3, p3, q3, rfl, rfl, rfl, h3, r3⟩ := trodAll_cons r2
  obtain ⟨rfl, rfl, rfl⟩ := trodAll_nil r3
  obtain rfl : args = #[v0, v1, v2, v3] := by cases args; simp_all
  obtain ⟨rfl, rfl⟩ := trodVars_none hV
  obtain ⟨l0, rfl, rfl, rfl, m0⟩ := open_string Tryd.underlying9 (hval 0 9 v0 rfl rfl) h0
  obtain ⟨l1, rfl, rfl, rfl, m1⟩ := open_string Tryd.underlying9 (hval 1 9 v1 rfl rfl) h1
  obtain ⟨l2, rfl, rfl, rfl, m2⟩ := open_int Tryd.underlying5 (hval 2 5 v2 rfl rfl) h2
  obtain ⟨l3, rfl, rfl, rfl, m3⟩ := open_int Tryd.underlying5 (hval 3 5 v3 rfl rfl) h3
  clear hA0 hval0 hsz0
  refine (YtiolgglipcijpaaDoor.RVers.row l0 m0 l1 m1 l2 m2 l3 m3 W hG).mono fun e W' ⟨he, bel⟩ => ?_
  subst he
  exact ⟨_, rfl, _, _, _, [], _, [], hW', trodAll_mk1 (shut_bool Tryd.underlying4 _), (trodAll_cons_mk (shut_string Tryd.underlying9 m0) (trodAll_cons_mk (shut_string Tryd.underlying9 m1) (trodAll_cons_mk (shut_int Tryd.underlying5 m2) (trodAll_cons_mk (shut_int Tryd.underlying5 m3) trodAll_mk0)))), rfl, bel.frame _, fun h => by cases h⟩
theorem over : Rows.reqlineVersionsRow.holds Tryd.pinned (OpenSpec.ofChange Rows.reqlineVersionsSpec) :=
  OpenClaim.holds_of_wide 7 Tryd.f7 rfl rfl rfl rfl rfl rfl rfl ⟨rfl, rfl, rfl, rfl, rfl⟩ rfl rfl rfl rfl rfl (by kernel_rfl) Tryd.func7 (by kernel_rfl)
    (of_decide_eq_true (by kernel_rfl)) (by unfold Func.isWrapper; first | (rw [if_pos (by decide +kernel)]; kernel_rfl) | (rw [if_neg (by decide +kernel)]; exact ⟨rfl, rfl⟩))
    (fun os started H enc _ => lifted os started H enc)
theorem card : Rows.ReqlineVersionsCardSaid :=
  Claim7.holds_tied_plain_at .later [] [.data, .handle, .widerDeep, .funcs, .pinned] true (true, "f415b36f0811a6a9ced6d804f445cc691c4a63a5c1f9b95cf1af1f7c828e66d2") true over (fun _ h => by cases h) (by kernel_rfl) (fun _ h => by cases h) reqlineVersions_row_tie rfl ⟨rfl, rfl⟩ (by kernel_rfl) rfl
    (fun f fn hf hfn => by
      obtain rfl : f = 7 := Option.some.inj ((show Tryd.prog.funcNamed "doorkeeper/doorkeeperlaw10.ReqlineVersions" = some 7 by kernel_rfl).symm.trans hf) |>.symm
      obtain rfl : fn = Tryd.f7 := (Option.some.inj (Tryd.func7.symm.trans hfn)).symm
      exact ⟨by kernel_rfl, fun j t ht => by
        rw [Tryd.params7] at ht
        have hm : t ∈ [9, 9, 5, 5] := by simpa using Array.mem_of_getElem? ht
        have hall : ([9, 9, 5, 5].all fun u => !Tryd.prog.wantsStandIn u) = true := by kernel_rfl
        exact (show Tryd.prog.wantsStandIn t = false by simpa using List.all_eq_true.1 hall t hm)⟩)
    (by kernel_rfl)
end Go.Proofs.YtiolgglipcijpaaDoor.reqlineVersionsR
namespace Go.Proofs.YtiolgglipcijpaaDoor
/-- The statement, under a short name, for the claim. -/
theorem reqlineVersions_holds : Rows.ReqlineVersionsCardSaid := reqlineVersionsR.card
end Go.Proofs.YtiolgglipcijpaaDoor
end
