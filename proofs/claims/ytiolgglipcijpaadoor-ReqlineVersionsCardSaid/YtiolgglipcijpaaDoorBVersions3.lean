/- reqline.Parse: a line in three parts that pass four rules, or an error. The walks of reqline.Parse at a line in three parts. The walks of reqline.Parse at a line in three parts. The walks of reqline.Parse at a line in three parts. reqline.Kind: the kind of a method. reqline.Methods: the methods with a kind. reqline.Parse in the form in which the print's functions are met: what it gives, and that the machine's call comes to it. Conditions: none beyond those that each theorem states. -/
import Derived.Test.YtiolgglipcijpaaDoorBVersions2
import Derived.Deep.QuietTactic
import Derived.BigQuiet
import Derived.StillTailTactics
import Derived.Maps.Own
import Derived.Maps.OwnOps
import Derived.Maps.Views
import Derived.StringKeys
set_option linter.unusedVariables false
set_option linter.unusedSimpArgs false

section
namespace Go.Proofs.YtiolgglipcijpaaDoor.RParse
open Go Go.RowKit Go.Proofs.YtiolgglipcijpaaDoorW.PrintWords Go.Proofs.YtiolgglipcijpaaDoor.PB Go.Proofs.YtiolgglipcijpaaDoor.P Go.Proofs.YtiolgglipcijpaaDoor.LSpec Go.Proofs.YtiolgglipcijpaaDoor.RSpec
open Go.Proofs.YtiolgglipcijpaaDoor.ROct (tokB visB isTok isVis)

theorem Split_calls (s : ByteArray) (hs : s.size ≤ 100000) (w : World) (hG : Glob w) :
    Calls Tryd.prog 29 #[.string s, .string ⟨#[32]⟩] w fun e w' =>
      e = .returned (.slice (some ⟨w.heap.size, 0, none⟩) (splitL 32 (toL s)).length (splitL 32 (toL s)).length) ∧ w' = w.alloc (.cells (((splitL 32 (toL s)).map ofL).map Value.string).toArray 9) := by
  obtain ⟨m, hm⟩ := hG.most
  rw [split32_length, ← split32 _ s rfl]
  exact Tryd.strings_Split s ⟨#[32]⟩ m w (by omega) hm (by decide)

theorem New_calls (s n : Int) (w : World) : Calls Tryd.prog 30 #[.int .i64 s, .int .i64 n] w fun e w' => e = .returned (.iface 104 (.agg #[.int .i64 s, .int .i64 n])) ∧ w' = w := by
  go_enter Tryd.func30, Tryd.ntmps30
  go_wp2
  go_ret
  exact ⟨rfl, rfl⟩

theorem Parse_other (s : ByteArray) (hs : s.size ≤ 100000) (hn : (splitL 32 (toL s)).length ≠ 3) (w : World) (hG : Glob w) :
    Calls Tryd.prog 12 #[.string s] w fun e w' => e = .returned (.tuple #[.agg #[.string ⟨#[]⟩, .string ⟨#[]⟩, .int .i64 0], .iface 104 (.agg #[.int .i64 400, .int .i64 0])]) ∧ Below w.heap.size w w' := by
  have hn1 : (((splitL 32 (toL s)).length : Int) == 3) = false := by simpa using (by omega : ¬ ((splitL 32 (toL s)).length : Int) = 3)
  have hn2 : (((splitL 32 (toL s)).length : Int) != 3) = true := by rw [bne, hn1]; rfl
  have hG1 : Glob (w.alloc (.cells #[.string ⟨#[]⟩, .string ⟨#[]⟩, .int .i64 0] 24)) := hG.below ((Below.refl _ _).alloc (Nat.le_refl _) _)
  go_enter Tryd.func12, Tryd.ntmps12
  go_wp2_with (first | (go_at_call 29; refine (Split_calls s hs _ hG1).mono ?_; rintro e w1 ⟨rfl, rfl⟩) | (go_at_call 30; refine (New_calls _ _ _).mono ?_; rintro e w2 ⟨rfl, rfl⟩))
  refine bodyPost_ret (results_ct rfl _ _ w.heap.size 24 #[.string (⟨#[]⟩ : ByteArray), .string (⟨#[]⟩ : ByteArray), .int .i64 0] (0, 0) _ rfl (blk_alloc (blk_new _ _) _) Tryd.underlying24 rfl (by kernel_rfl)) rfl ?_
  exact ⟨rfl, below_alloc ((Below.refl _ _).alloc (Nat.le_refl _) _) _⟩

def rulesA : Value := .agg #[.int .i64 0, .func (.func 167) #[] #[], .int .i64 400, .int .i64 1, .func (.func 168) #[] #[], .int .i64 400, .int .i64 2, .func (.func 171) #[] #[], .int .i64 400, .int .i64 2, .func (.func 172) #[] #[], .int .i64 505]
theorem rule0 (w : World) : (Instr.index 62 rulesA (.int .i64 0)).run Tryd.prog w = .ok (.agg #[.int .i64 0, .func (.func 167) #[] #[], .int .i64 400]) w := by kernel_rfl
theorem rule1 (w : World) : (Instr.index 62 rulesA (.int .i64 1)).run Tryd.prog w = .ok (.agg #[.int .i64 1, .func (.func 168) #[] #[], .int .i64 400]) w := by kernel_rfl
theorem rule2 (w : World) : (Instr.index 62 rulesA (.int .i64 2)).run Tryd.prog w = .ok (.agg #[.int .i64 2, .func (.func 171) #[] #[], .int .i64 400]) w := by kernel_rfl
theorem rule3 (w : World) : (Instr.index 62 rulesA (.int .i64 3)).run Tryd.prog w = .ok (.agg #[.int .i64 2, .func (.func 172) #[] #[], .int .i64 505]) w := by kernel_rfl
/-- the world when the line is in parts. -/
def W2 (w : World) (m t v : List UInt8) : World := (w.alloc (.cells #[.string ⟨#[]⟩, .string ⟨#[]⟩, .int .i64 0] 24)).alloc (.cells #[.string (ofL m), .string (ofL t), .string (ofL v)] 9)
theorem rule_cells {w : World} (hG : Glob w) (m t v : List UInt8) : (W2 w m t v).cell? ⟨0, 0, none⟩ = some (.int .i64 0) ∧ (W2 w m t v).cell? ⟨0, 1, none⟩ = some (.func (.func 167) #[] #[]) ∧ (W2 w m t v).cell? ⟨0, 2, none⟩ = some (.int .i64 400)
    ∧ (W2 w m t v).cell? ⟨0, 3, none⟩ = some (.int .i64 1) ∧ (W2 w m t v).cell? ⟨0, 4, none⟩ = some (.func (.func 168) #[] #[]) ∧ (W2 w m t v).cell? ⟨0, 5, none⟩ = some (.int .i64 400)
    ∧ (W2 w m t v).cell? ⟨0, 6, none⟩ = some (.int .i64 2) ∧ (W2 w m t v).cell? ⟨0, 7, none⟩ = some (.func (.func 171) #[] #[]) ∧ (W2 w m t v).cell? ⟨0, 8, none⟩ = some (.int .i64 400)
    ∧ (W2 w m t v).cell? ⟨0, 9, none⟩ = some (.int .i64 2) ∧ (W2 w m t v).cell? ⟨0, 10, none⟩ = some (.func (.func 172) #[] #[]) ∧ (W2 w m t v).cell? ⟨0, 11, none⟩ = some (.int .i64 505) := by
  have h := (hG.below (w' := W2 w m t v) (below_alloc ((Below.refl _ _).alloc (Nat.le_refl _) _) _)).rules
  exact ⟨h 0 (by omega), h 1 (by omega), h 2 (by omega), h 3 (by omega), h 4 (by omega), h 5 (by omega), h 6 (by omega), h 7 (by omega), h 8 (by omega), h 9 (by omega), h 10 (by omega), h 11 (by omega)⟩

theorem Split_three (s : ByteArray) (hs : s.size ≤ 100000) (m t v : List UInt8) (hsp : splitL 32 (toL s) = [m, t, v]) (w : World) (hG : Glob w) :
    Calls Tryd.prog 29 #[.string s, .string ⟨#[32]⟩] w fun e w' => e = .returned (.slice (some ⟨w.heap.size, 0, none⟩) 3 3) ∧ w' = w.alloc (.cells #[.string (ofL m), .string (ofL t), .string (ofL v)] 9) := by
  have := Split_calls s hs w hG
  rw [hsp] at this
  exact this

theorem store_func (W : World) (x y : Value) (f : FuncId) : (store ⟨W.heap.size, 1, none⟩ (.func (.func f) #[] #[])).run Tryd.prog (W.alloc (.cells #[x, .nilFunc, y] 61)) = .ok () (W.alloc (.cells #[x, .func (.func f) #[] #[], y] 61)) := by
  rw [run_store _ _ _ _ _ (by rfl), World.cell?_alloc_at _ _ _ _ rfl]
  simp [World.setCell_alloc_new]

/-- what a round of the rules finds. -/
structure Ready (w W : World) (m t v : List UInt8) : Prop where
  res : W.heap[w.heap.size]? = some (.cells #[.string ⟨#[]⟩, .string ⟨#[]⟩, .int .i64 0] 24 (0, 0))
  p0 : W.cell? ⟨w.heap.size + 1, 0, none⟩ = some (.string (ofL m))
  p1 : W.cell? ⟨w.heap.size + 1, 1, none⟩ = some (.string (ofL t))
  p2 : W.cell? ⟨w.heap.size + 1, 2, none⟩ = some (.string (ofL v))
  lt : w.heap.size + 1 < W.heap.size
  below : Below w.heap.size w W
theorem Ready.first (w : World) (m t v : List UInt8) : Ready w ((w.alloc (.cells #[.string ⟨#[]⟩, .string ⟨#[]⟩, .int .i64 0] 24)).alloc (.cells #[.string (ofL m), .string (ofL t), .string (ofL v)] 9)) m t v :=
  ⟨blk_alloc (blk_new _ _) _, by simp, by simp, by simp, by simp, below_alloc ((Below.refl _ _).alloc (Nat.le_refl _) _) _⟩
theorem Ready.alloc {w W : World} {m t v : List UInt8} (h : Ready w W m t v) (o : Obj) : Ready w (W.alloc o) m t v := by
  have l1 := h.lt
  exact ⟨blk_alloc h.res _, by rw [World.cell?_alloc_lt _ _ _ (by exact l1)]; exact h.p0, by rw [World.cell?_alloc_lt _ _ _ (by exact l1)]; exact h.p1, by rw [World.cell?_alloc_lt _ _ _ (by exact l1)]; exact h.p2, by simp; omega, below_alloc h.below _⟩
theorem Ready.drewN {w W : World} {m t v : List UInt8} (h : Ready w W m t v) (n : Nat) : Ready w (W.drewN n) m t v := ⟨h.res, h.p0, h.p1, h.p2, h.lt, pw_below_drewN h.below n⟩

theorem Ready.step {w W W1 : World} {m t v : List UInt8} (h : Ready w W m t v) (hb : Below W.heap.size W W1) : Ready w W1 m t v := by
  have l1 := h.lt
  have l2 := hb.size
  exact ⟨by rw [hb.block _ (by omega)]; exact h.res, by rw [hb.cell (by exact l1)]; exact h.p0, by rw [hb.cell (by exact l1)]; exact h.p1, by rw [hb.cell (by exact l1)]; exact h.p2, by omega, below_step h.below hb⟩
theorem row_cells (W : World) (x y z : Value) (n : Nat) : ((W.alloc (.cells #[x, y, z] 61)).drewN n).cell? ⟨W.heap.size, 0, none⟩ = some x ∧ ((W.alloc (.cells #[x, y, z] 61)).drewN n).cell? ⟨W.heap.size, 1, none⟩ = some y ∧ ((W.alloc (.cells #[x, y, z] 61)).drewN n).cell? ⟨W.heap.size, 2, none⟩ = some z ∧ W.heap.size < ((W.alloc (.cells #[x, y, z] 61)).drewN n).heap.size := by
  refine ⟨?_, ?_, ?_, ?_⟩
  · show (W.alloc _).cell? _ = _; simp
  · show (W.alloc _).cell? _ = _; simp
  · show (W.alloc _).cell? _ = _; simp
  · show W.heap.size < (W.alloc _).heap.size; simp
theorem Join_one (m : List UInt8) {W : World} {g : Nat} (p0 : W.cell? ⟨g, 0, none⟩ = some (.string (ofL m))) (hg : g < W.heap.size) (hm : m.length ≤ 100000) :
    Calls Tryd.prog 31 #[.slice (some ⟨g, 0, none⟩) 1 3, .string ⟨#[32]⟩] W fun e w' => e = .returned (.string (ofL m)) ∧ Below W.heap.size W w' := by
  have h := Tryd.strings_Join g 0 3 [ofL m] ⟨#[32]⟩ W (fun j x hx => by
    cases j with
    | zero => simp at hx; subst hx; exact p0
    | succ j => simp at hx) hg (by simp) (by simp) (by
      simp only [List.map_cons, List.map_nil, Lib.join_one]
      show (toL (ofL m)).length ≤ _
      rw [toL_ofL]; omega)
  refine h.mono ?_
  rintro e w' ⟨rfl, hb⟩
  refine ⟨?_, hb⟩
  simp only [List.map_cons, List.map_nil, Lib.join_one]
theorem Join_two (m t : List UInt8) {W : World} {g : Nat} (p0 : W.cell? ⟨g, 0, none⟩ = some (.string (ofL m))) (p1 : W.cell? ⟨g, 1, none⟩ = some (.string (ofL t))) (hg : g < W.heap.size) (hm : m.length ≤ 100000) (ht : t.length ≤ 100000) :
    Calls Tryd.prog 31 #[.slice (some ⟨g, 0, none⟩) 2 3, .string ⟨#[32]⟩] W fun e w' => e = .returned (.string (ofL (m ++ 32 :: t))) ∧ Below W.heap.size W w' := by
  have e : Lib.join ([ofL m, ofL t].map (·.data.toList)) (⟨#[32]⟩ : ByteArray).data.toList = m ++ 32 :: t := by
    show Lib.join [m, t] [32] = _
    rw [Lib.join_cons]; simp [Lib.joinTail]
  have h := Tryd.strings_Join g 0 3 [ofL m, ofL t] ⟨#[32]⟩ W (fun j x hx => by
    cases j with
    | zero => simp at hx; subst hx; exact p0
    | succ j => cases j with
      | zero => simp at hx; subst hx; exact p1
      | succ j => simp at hx) hg (by simp) (by simp) (by rw [e]; simp; omega)
  refine h.mono ?_
  rintro e' w' ⟨rfl, hb⟩
  rw [e]
  exact ⟨rfl, hb⟩
theorem at_end {z : Value} {s x y : Int} (h : x = y) : Ending.returned (.tuple #[z, .iface 104 (.agg #[.int .i64 s, .int .i64 x])]) = .returned (.tuple #[z, .iface 104 (.agg #[.int .i64 s, .int .i64 y])]) := by rw [h]
theorem res_cells {W : World} {g : Nat} (h : W.heap[g]? = some (.cells #[.string ⟨#[]⟩, .string ⟨#[]⟩, .int .i64 0] 24 (0, 0))) :
    W.cell? ⟨g, 0, none⟩ = some (.string ⟨#[]⟩) ∧ W.cell? ⟨g, 1, none⟩ = some (.string ⟨#[]⟩) ∧ W.cell? ⟨g, 2, none⟩ = some (.int .i64 0) ∧ W.frozen? ⟨g, 0, none⟩ = false ∧ W.frozen? ⟨g, 1, none⟩ = false ∧ W.frozen? ⟨g, 2, none⟩ = false := by
  refine ⟨?_, ?_, ?_, ?_, ?_, ?_⟩ <;> simp [World.cell?, World.frozen?, h]
theorem quiet_drawn {f : FuncId} {args : Array Value} {v : Value} (h : ∀ W, Calls Tryd.prog f args W fun e w' => e = .returned v ∧ Drawn0 W w') (W : World) (n : Nat) :
    Calls Tryd.prog f args (W.drewN n) fun e w'' => e = .returned v ∧ ∃ m, w'' = W.drewN m :=
  Calls.quiet_of ((h _).mono fun e w' ⟨h1, hd⟩ => ⟨h1, by obtain ⟨⟨k, rfl⟩⟩ := hd; exact ⟨k, rfl⟩⟩)

end Go.Proofs.YtiolgglipcijpaaDoor.RParse
end

section
namespace Go.Proofs.YtiolgglipcijpaaDoor.RParse
open Go Go.RowKit Go.Proofs.YtiolgglipcijpaaDoorW.PrintWords Go.Proofs.YtiolgglipcijpaaDoor.PB Go.Proofs.YtiolgglipcijpaaDoor.P Go.Proofs.YtiolgglipcijpaaDoor.LSpec Go.Proofs.YtiolgglipcijpaaDoor.RSpec
open Go.Proofs.YtiolgglipcijpaaDoor.ROct (tokB visB isTok isVis)

set_option maxHeartbeats 8000000 in
set_option maxRecDepth 100000 in
theorem Parse_r0 (s : ByteArray) (hs : s.size ≤ 100000) (m t v : List UInt8) (hm : m.length ≤ 100000) (ht : t.length ≤ 100000) (hsp : splitL 32 (toL s) = [m, t, v]) (h0 : isTok (ofL m) = false) (w : World) (hG : Glob w) :
    Calls Tryd.prog 12 #[.string s] w fun e w' => e = .returned (.tuple #[.agg #[.string ⟨#[]⟩, .string ⟨#[]⟩, .int .i64 0], .iface 104 (.agg #[.int .i64 400, .int .i64 0])]) ∧ Below w.heap.size w w' := by
  have hG1 : Glob (w.alloc (.cells #[.string ⟨#[]⟩, .string ⟨#[]⟩, .int .i64 0] 24)) := hG.below ((Below.refl _ _).alloc (Nat.le_refl _) _)
  obtain ⟨c0, c1, c2, c3, c4, c5, c6, c7, c8, c9, c10, c11⟩ := rule_cells hG m t v
  unfold W2 at c0 c1 c2 c3 c4 c5 c6 c7 c8 c9 c10 c11
  have i0 := rule0
  unfold rulesA at i0
  have sf := store_func
  have hR0 := Ready.first w m t v
  have k0 := ROct.IsToken_calls (ofL m) (by rw [size_ofL]; omega)
  rw [h0] at k0
  go_enter Tryd.func12, Tryd.ntmps12
  go_wp2_with (first | (go_at_call 29; refine (Split_three s hs m t v hsp _ hG1).mono ?_; rintro e w1 ⟨rfl, rfl⟩))
  clear c0 c1 c2 c3 c4 c5 c6 c7 c8 c9 c10 c11
  refine wp_loop_rounds 5 ?_
  generalize (w.alloc (.cells #[.string ⟨#[]⟩, .string ⟨#[]⟩, .int .i64 0] 24)).alloc (.cells #[.string (ofL m), .string (ofL t), .string (ofL v)] 9) = W0 at hR0 ⊢
  have hRR0 := hR0
  obtain ⟨q0, q1, q2, q3, q4, q5⟩ := hRR0
  obtain ⟨s0, s1, s2, z0, z1, z2⟩ := res_cells q0
  have q6 : w.heap.size < W0.heap.size := by omega
  rw [rounds_succ]
  go_wp2
  go_quiet (exact quiet_drawn k0 _ _)
  go_wp2_with (first | (go_at_call 31; refine (Tryd.strings_Join_none _ _ _ _).mono ?_; rintro e w1 ⟨rfl, rfl⟩) | (go_at_call 30; refine (New_calls _ _ _).mono ?_; rintro e w2 ⟨rfl, rfl⟩))
  refine bodyPost_ret (results_ct rfl _ _ w.heap.size 24 #[.string (⟨#[]⟩ : ByteArray), .string (⟨#[]⟩ : ByteArray), .int .i64 0] (0, 0) _ rfl (by refine blk_put (cs := #[.string (⟨#[]⟩ : ByteArray), .string (⟨#[]⟩ : ByteArray), .int .i64 0]) ?_ 2 _ rfl; refine blk_put (cs := #[.string (⟨#[]⟩ : ByteArray), .string (⟨#[]⟩ : ByteArray), .int .i64 0]) ?_ 1 _ rfl; refine blk_put (cs := #[.string (⟨#[]⟩ : ByteArray), .string (⟨#[]⟩ : ByteArray), .int .i64 0]) ?_ 0 _ rfl; exact (hR0.alloc _ |>.drewN _).res) Tryd.underlying24 rfl (by kernel_rfl)) rfl ?_
  exact ⟨rfl, below_set (below_set (below_set (hR0.alloc _ |>.drewN _).below (Nat.le_refl _)) (Nat.le_refl _)) (Nat.le_refl _)⟩


set_option maxHeartbeats 8000000 in
set_option maxRecDepth 100000 in
theorem Parse_r1 (s : ByteArray) (hs : s.size ≤ 100000) (m t v : List UInt8) (hm : m.length ≤ 100000) (ht : t.length ≤ 100000) (hsp : splitL 32 (toL s) = [m, t, v]) (h0 : isTok (ofL m) = true) (h1 : isVis (ofL t) = false) (w : World) (hG : Glob w) :
    Calls Tryd.prog 12 #[.string s] w fun e w' => e = .returned (.tuple #[.agg #[.string ⟨#[]⟩, .string ⟨#[]⟩, .int .i64 0], .iface 104 (.agg #[.int .i64 400, .int .i64 (m.length + 1 : Nat)])]) ∧ Below w.heap.size w w' := by
  have hG1 : Glob (w.alloc (.cells #[.string ⟨#[]⟩, .string ⟨#[]⟩, .int .i64 0] 24)) := hG.below ((Below.refl _ _).alloc (Nat.le_refl _) _)
  obtain ⟨c0, c1, c2, c3, c4, c5, c6, c7, c8, c9, c10, c11⟩ := rule_cells hG m t v
  unfold W2 at c0 c1 c2 c3 c4 c5 c6 c7 c8 c9 c10 c11
  have i0 := rule0
  have i1 := rule1
  unfold rulesA at i0 i1
  have sf := store_func
  have hR0 := Ready.first w m t v
  have k0 := ROct.IsToken_calls (ofL m) (by rw [size_ofL]; omega)
  rw [h0] at k0
  have k1 := ROct.rule1_calls (ofL t) (by rw [size_ofL]; omega)
  rw [h1] at k1
  go_enter Tryd.func12, Tryd.ntmps12
  go_wp2_with (first | (go_at_call 29; refine (Split_three s hs m t v hsp _ hG1).mono ?_; rintro e w1 ⟨rfl, rfl⟩))
  clear c0 c1 c2 c3 c4 c5 c6 c7 c8 c9 c10 c11
  refine wp_loop_rounds 5 ?_
  generalize (w.alloc (.cells #[.string ⟨#[]⟩, .string ⟨#[]⟩, .int .i64 0] 24)).alloc (.cells #[.string (ofL m), .string (ofL t), .string (ofL v)] 9) = W0 at hR0 ⊢
  have hRR0 := hR0
  obtain ⟨q0, q1, q2, q3, q4, q5⟩ := hRR0
  obtain ⟨s0, s1, s2, z0, z1, z2⟩ := res_cells q0
  have q6 : w.heap.size < W0.heap.size := by omega
  rw [rounds_succ]
  go_wp2
  go_quiet (exact quiet_drawn k0 _ _)
  go_wp2
  have hR1 := (hR0.alloc (.cells #[.int .i64 0, .func (.func 167) #[] #[], .int .i64 400] 61)).drewN nq
  clear q0 q1 q2 q3 q4 q5 s0 s1 s2 z0 z1 z2 q6
  generalize (W0.alloc (.cells #[.int .i64 0, .func (.func 167) #[] #[], .int .i64 400] 61)).drewN nq = W1 at hR1 ⊢
  have hRR1 := hR1
  obtain ⟨q0, q1, q2, q3, q4, q5⟩ := hRR1
  obtain ⟨s0, s1, s2, z0, z1, z2⟩ := res_cells q0
  have q6 : w.heap.size < W1.heap.size := by omega
  rw [rounds_succ]
  go_wp2
  go_quiet (exact quiet_drawn k1 _ _)
  have hRn := (hR1.alloc (.cells #[.int .i64 1, .func (.func 168) #[] #[], .int .i64 400] 61)).drewN nq
  have hC := row_cells W1 (.int .i64 1) (.func (.func 168) #[] #[]) (.int .i64 400) nq
  clear q0 q1 q2 q3 q4 q5 s0 s1 s2 z0 z1 z2 q6
  generalize hb : W1.heap.size = b at hC ⊢
  generalize (W1.alloc (.cells #[.int .i64 1, .func (.func 168) #[] #[], .int .i64 400] 61)).drewN nq = W2 at hRn hC ⊢
  obtain ⟨y0, y1, y2, yl⟩ := hC
  have hRR := hRn
  obtain ⟨q0, q1, q2, q3, q4, q5⟩ := hRR
  go_wp2_with (first | (go_at_call 31; refine (Join_one m (W := W2) q1 (by omega) hm).mono ?_; rintro e w1 ⟨rfl, hJ⟩; have x0 := (hJ.cell (p := ⟨b, 0, none⟩) yl).trans y0; have x2 := (hJ.cell (p := ⟨b, 2, none⟩) yl).trans y2; have hRJ := hRn.step hJ; have hRK := hRJ; obtain ⟨u0, u1, u2, u3, u4, u5⟩ := hRK; obtain ⟨s0, s1, s2, z0, z1, z2⟩ := res_cells u0) | (go_at_call 30; refine (New_calls _ _ _).mono ?_; rintro e w2 ⟨rfl, rfl⟩))
  refine bodyPost_ret (results_ct rfl _ _ w.heap.size 24 #[.string (⟨#[]⟩ : ByteArray), .string (⟨#[]⟩ : ByteArray), .int .i64 0] (0, 0) _ rfl (by refine blk_put (cs := #[.string (⟨#[]⟩ : ByteArray), .string (⟨#[]⟩ : ByteArray), .int .i64 0]) ?_ 2 _ rfl; refine blk_put (cs := #[.string (⟨#[]⟩ : ByteArray), .string (⟨#[]⟩ : ByteArray), .int .i64 0]) ?_ 1 _ rfl; refine blk_put (cs := #[.string (⟨#[]⟩ : ByteArray), .string (⟨#[]⟩ : ByteArray), .int .i64 0]) ?_ 0 _ rfl; exact u0) Tryd.underlying24 rfl (by kernel_rfl)) rfl ?_
  refine ⟨at_end ?_, below_set (below_set (below_set u5 (Nat.le_refl _)) (Nat.le_refl _)) (Nat.le_refl _)⟩
  rw [size_ofL, wrap64_ok (by omega) (by omega)]; omega



end Go.Proofs.YtiolgglipcijpaaDoor.RParse
end

section
namespace Go.Proofs.YtiolgglipcijpaaDoor.RParse
open Go Go.RowKit Go.Proofs.YtiolgglipcijpaaDoorW.PrintWords Go.Proofs.YtiolgglipcijpaaDoor.PB Go.Proofs.YtiolgglipcijpaaDoor.P Go.Proofs.YtiolgglipcijpaaDoor.LSpec Go.Proofs.YtiolgglipcijpaaDoor.RSpec
open Go.Proofs.YtiolgglipcijpaaDoor.ROct (tokB visB isTok isVis)

set_option maxHeartbeats 8000000 in
set_option maxRecDepth 100000 in
theorem Parse_r2 (s : ByteArray) (hs : s.size ≤ 100000) (m t v : List UInt8) (hm : m.length ≤ 100000) (ht : t.length ≤ 100000) (hsp : splitL 32 (toL s) = [m, t, v]) (h0 : isTok (ofL m) = true) (h1 : isVis (ofL t) = true) (h2 : verL v = false) (w : World) (hG : Glob w) :
    Calls Tryd.prog 12 #[.string s] w fun e w' => e = .returned (.tuple #[.agg #[.string ⟨#[]⟩, .string ⟨#[]⟩, .int .i64 0], .iface 104 (.agg #[.int .i64 400, .int .i64 (m.length + t.length + 2 : Nat)])]) ∧ Below w.heap.size w w' := by
  have hG1 : Glob (w.alloc (.cells #[.string ⟨#[]⟩, .string ⟨#[]⟩, .int .i64 0] 24)) := hG.below ((Below.refl _ _).alloc (Nat.le_refl _) _)
  obtain ⟨c0, c1, c2, c3, c4, c5, c6, c7, c8, c9, c10, c11⟩ := rule_cells hG m t v
  unfold W2 at c0 c1 c2 c3 c4 c5 c6 c7 c8 c9 c10 c11
  have i0 := rule0
  have i1 := rule1
  have i2 := rule2
  unfold rulesA at i0 i1 i2
  have sf := store_func
  have hR0 := Ready.first w m t v
  have k0 := ROct.IsToken_calls (ofL m) (by rw [size_ofL]; omega)
  rw [h0] at k0
  have k1 := ROct.rule1_calls (ofL t) (by rw [size_ofL]; omega)
  rw [h1] at k1
  have k2 := fun W => reqline_version.calls (ofL v) false W (by rw [version_f, toL_ofL, h2])
  go_enter Tryd.func12, Tryd.ntmps12
  go_wp2_with (first | (go_at_call 29; refine (Split_three s hs m t v hsp _ hG1).mono ?_; rintro e w1 ⟨rfl, rfl⟩))
  clear c0 c1 c2 c3 c4 c5 c6 c7 c8 c9 c10 c11
  refine wp_loop_rounds 5 ?_
  generalize (w.alloc (.cells #[.string ⟨#[]⟩, .string ⟨#[]⟩, .int .i64 0] 24)).alloc (.cells #[.string (ofL m), .string (ofL t), .string (ofL v)] 9) = W0 at hR0 ⊢
  have hRR0 := hR0
  obtain ⟨q0, q1, q2, q3, q4, q5⟩ := hRR0
  obtain ⟨s0, s1, s2, z0, z1, z2⟩ := res_cells q0
  have q6 : w.heap.size < W0.heap.size := by omega
  rw [rounds_succ]
  go_wp2
  go_quiet (exact quiet_drawn k0 _ _)
  go_wp2
  have hR1 := (hR0.alloc (.cells #[.int .i64 0, .func (.func 167) #[] #[], .int .i64 400] 61)).drewN nq
  clear q0 q1 q2 q3 q4 q5 s0 s1 s2 z0 z1 z2 q6
  generalize (W0.alloc (.cells #[.int .i64 0, .func (.func 167) #[] #[], .int .i64 400] 61)).drewN nq = W1 at hR1 ⊢
  have hRR1 := hR1
  obtain ⟨q0, q1, q2, q3, q4, q5⟩ := hRR1
  obtain ⟨s0, s1, s2, z0, z1, z2⟩ := res_cells q0
  have q6 : w.heap.size < W1.heap.size := by omega
  rw [rounds_succ]
  go_wp2
  go_quiet (exact quiet_drawn k1 _ _)
  go_wp2
  have hR2 := (hR1.alloc (.cells #[.int .i64 1, .func (.func 168) #[] #[], .int .i64 400] 61)).drewN nq
  clear q0 q1 q2 q3 q4 q5 s0 s1 s2 z0 z1 z2 q6
  generalize (W1.alloc (.cells #[.int .i64 1, .func (.func 168) #[] #[], .int .i64 400] 61)).drewN nq = W2 at hR2 ⊢
  have hRR2 := hR2
  obtain ⟨q0, q1, q2, q3, q4, q5⟩ := hRR2
  obtain ⟨s0, s1, s2, z0, z1, z2⟩ := res_cells q0
  have q6 : w.heap.size < W2.heap.size := by omega
  rw [rounds_succ]
  go_wp2
  go_quiet (exact quiet_drawn k2 _ _)
  have hRn := (hR2.alloc (.cells #[.int .i64 2, .func (.func 171) #[] #[], .int .i64 400] 61)).drewN nq
  have hC := row_cells W2 (.int .i64 2) (.func (.func 171) #[] #[]) (.int .i64 400) nq
  clear q0 q1 q2 q3 q4 q5 s0 s1 s2 z0 z1 z2 q6
  generalize hb : W2.heap.size = b at hC ⊢
  generalize (W2.alloc (.cells #[.int .i64 2, .func (.func 171) #[] #[], .int .i64 400] 61)).drewN nq = W3 at hRn hC ⊢
  obtain ⟨y0, y1, y2, yl⟩ := hC
  have hRR := hRn
  obtain ⟨q0, q1, q2, q3, q4, q5⟩ := hRR
  go_wp2_with (first | (go_at_call 31; refine (Join_two m t (W := W3) q1 q2 (by omega) hm ht).mono ?_; rintro e w1 ⟨rfl, hJ⟩; have x0 := (hJ.cell (p := ⟨b, 0, none⟩) yl).trans y0; have x2 := (hJ.cell (p := ⟨b, 2, none⟩) yl).trans y2; have hRJ := hRn.step hJ; have hRK := hRJ; obtain ⟨u0, u1, u2, u3, u4, u5⟩ := hRK; obtain ⟨s0, s1, s2, z0, z1, z2⟩ := res_cells u0) | (go_at_call 30; refine (New_calls _ _ _).mono ?_; rintro e w2 ⟨rfl, rfl⟩))
  refine bodyPost_ret (results_ct rfl _ _ w.heap.size 24 #[.string (⟨#[]⟩ : ByteArray), .string (⟨#[]⟩ : ByteArray), .int .i64 0] (0, 0) _ rfl (by refine blk_put (cs := #[.string (⟨#[]⟩ : ByteArray), .string (⟨#[]⟩ : ByteArray), .int .i64 0]) ?_ 2 _ rfl; refine blk_put (cs := #[.string (⟨#[]⟩ : ByteArray), .string (⟨#[]⟩ : ByteArray), .int .i64 0]) ?_ 1 _ rfl; refine blk_put (cs := #[.string (⟨#[]⟩ : ByteArray), .string (⟨#[]⟩ : ByteArray), .int .i64 0]) ?_ 0 _ rfl; exact u0) Tryd.underlying24 rfl (by kernel_rfl)) rfl ?_
  refine ⟨at_end ?_, below_set (below_set (below_set u5 (Nat.le_refl _)) (Nat.le_refl _)) (Nat.le_refl _)⟩
  have e : (m ++ 32 :: t).length = m.length + t.length + 1 := by simp; omega
  rw [size_ofL, e, wrap64_ok (by omega) (by omega)]; omega


set_option maxHeartbeats 8000000 in
set_option maxRecDepth 100000 in
theorem Parse_r3 (s : ByteArray) (hs : s.size ≤ 100000) (m t v : List UInt8) (hm : m.length ≤ 100000) (ht : t.length ≤ 100000) (hsp : splitL 32 (toL s) = [m, t, v]) (h0 : isTok (ofL m) = true) (h1 : isVis (ofL t) = true) (h2 : verL v = true) (h3 : supL v = false) (w : World) (hG : Glob w) :
    Calls Tryd.prog 12 #[.string s] w fun e w' => e = .returned (.tuple #[.agg #[.string ⟨#[]⟩, .string ⟨#[]⟩, .int .i64 0], .iface 104 (.agg #[.int .i64 505, .int .i64 (m.length + t.length + 2 : Nat)])]) ∧ Below w.heap.size w w' := by
  have hG1 : Glob (w.alloc (.cells #[.string ⟨#[]⟩, .string ⟨#[]⟩, .int .i64 0] 24)) := hG.below ((Below.refl _ _).alloc (Nat.le_refl _) _)
  obtain ⟨c0, c1, c2, c3, c4, c5, c6, c7, c8, c9, c10, c11⟩ := rule_cells hG m t v
  unfold W2 at c0 c1 c2 c3 c4 c5 c6 c7 c8 c9 c10 c11
  have i0 := rule0
  have i1 := rule1
  have i2 := rule2
  have i3 := rule3
  unfold rulesA at i0 i1 i2 i3
  have sf := store_func
  have hR0 := Ready.first w m t v
  have k0 := ROct.IsToken_calls (ofL m) (by rw [size_ofL]; omega)
  rw [h0] at k0
  have k1 := ROct.rule1_calls (ofL t) (by rw [size_ofL]; omega)
  rw [h1] at k1
  have k2 := fun W => reqline_version.calls (ofL v) true W (by rw [version_f, toL_ofL, h2])
  have k3 := fun W => reqline_supported.calls (ofL v) false W (by rw [supported_f, toL_ofL, h3])
  go_enter Tryd.func12, Tryd.ntmps12
  go_wp2_with (first | (go_at_call 29; refine (Split_three s hs m t v hsp _ hG1).mono ?_; rintro e w1 ⟨rfl, rfl⟩))
  clear c0 c1 c2 c3 c4 c5 c6 c7 c8 c9 c10 c11
  refine wp_loop_rounds 5 ?_
  generalize (w.alloc (.cells #[.string ⟨#[]⟩, .string ⟨#[]⟩, .int .i64 0] 24)).alloc (.cells #[.string (ofL m), .string (ofL t), .string (ofL v)] 9) = W0 at hR0 ⊢
  have hRR0 := hR0
  obtain ⟨q0, q1, q2, q3, q4, q5⟩ := hRR0
  obtain ⟨s0, s1, s2, z0, z1, z2⟩ := res_cells q0
  have q6 : w.heap.size < W0.heap.size := by omega
  rw [rounds_succ]
  go_wp2
  go_quiet (exact quiet_drawn k0 _ _)
  go_wp2
  have hR1 := (hR0.alloc (.cells #[.int .i64 0, .func (.func 167) #[] #[], .int .i64 400] 61)).drewN nq
  clear q0 q1 q2 q3 q4 q5 s0 s1 s2 z0 z1 z2 q6
  generalize (W0.alloc (.cells #[.int .i64 0, .func (.func 167) #[] #[], .int .i64 400] 61)).drewN nq = W1 at hR1 ⊢
  have hRR1 := hR1
  obtain ⟨q0, q1, q2, q3, q4, q5⟩ := hRR1
  obtain ⟨s0, s1, s2, z0, z1, z2⟩ := res_cells q0
  have q6 : w.heap.size < W1.heap.size := by omega
  rw [rounds_succ]
  go_wp2
  go_quiet (exact quiet_drawn k1 _ _)
  go_wp2
  have hR2 := (hR1.alloc (.cells #[.int .i64 1, .func (.func 168) #[] #[], .int .i64 400] 61)).drewN nq
  clear q0 q1 q2 q3 q4 q5 s0 s1 s2 z0 z1 z2 q6
  generalize (W1.alloc (.cells #[.int .i64 1, .func (.func 168) #[] #[], .int .i64 400] 61)).drewN nq = W2 at hR2 ⊢
  have hRR2 := hR2
  obtain ⟨q0, q1, q2, q3, q4, q5⟩ := hRR2
  obtain ⟨s0, s1, s2, z0, z1, z2⟩ := res_cells q0
  have q6 : w.heap.size < W2.heap.size := by omega
  rw [rounds_succ]
  go_wp2
  go_quiet (exact quiet_drawn k2 _ _)
  go_wp2
  have hR3 := (hR2.alloc (.cells #[.int .i64 2, .func (.func 171) #[] #[], .int .i64 400] 61)).drewN nq
  clear q0 q1 q2 q3 q4 q5 s0 s1 s2 z0 z1 z2 q6
  generalize (W2.alloc (.cells #[.int .i64 2, .func (.func 171) #[] #[], .int .i64 400] 61)).drewN nq = W3 at hR3 ⊢
  have hRR3 := hR3
  obtain ⟨q0, q1, q2, q3, q4, q5⟩ := hRR3
  obtain ⟨s0, s1, s2, z0, z1, z2⟩ := res_cells q0
  have q6 : w.heap.size < W3.heap.size := by omega
  rw [rounds_succ]
  go_wp2
  go_quiet (exact quiet_drawn k3 _ _)
  have hRn := (hR3.alloc (.cells #[.int .i64 2, .func (.func 172) #[] #[], .int .i64 505] 61)).drewN nq
  have hC := row_cells W3 (.int .i64 2) (.func (.func 172) #[] #[]) (.int .i64 505) nq
  clear q0 q1 q2 q3 q4 q5 s0 s1 s2 z0 z1 z2 q6
  generalize hb : W3.heap.size = b at hC ⊢
  generalize (W3.alloc (.cells #[.int .i64 2, .func (.func 172) #[] #[], .int .i64 505] 61)).drewN nq = W4 at hRn hC ⊢
  obtain ⟨y0, y1, y2, yl⟩ := hC
  have hRR := hRn
  obtain ⟨q0, q1, q2, q3, q4, q5⟩ := hRR
  go_wp2_with (first | (go_at_call 31; refine (Join_two m t (W := W4) q1 q2 (by omega) hm ht).mono ?_; rintro e w1 ⟨rfl, hJ⟩; have x0 := (hJ.cell (p := ⟨b, 0, none⟩) yl).trans y0; have x2 := (hJ.cell (p := ⟨b, 2, none⟩) yl).trans y2; have hRJ := hRn.step hJ; have hRK := hRJ; obtain ⟨u0, u1, u2, u3, u4, u5⟩ := hRK; obtain ⟨s0, s1, s2, z0, z1, z2⟩ := res_cells u0) | (go_at_call 30; refine (New_calls _ _ _).mono ?_; rintro e w2 ⟨rfl, rfl⟩))
  refine bodyPost_ret (results_ct rfl _ _ w.heap.size 24 #[.string (⟨#[]⟩ : ByteArray), .string (⟨#[]⟩ : ByteArray), .int .i64 0] (0, 0) _ rfl (by refine blk_put (cs := #[.string (⟨#[]⟩ : ByteArray), .string (⟨#[]⟩ : ByteArray), .int .i64 0]) ?_ 2 _ rfl; refine blk_put (cs := #[.string (⟨#[]⟩ : ByteArray), .string (⟨#[]⟩ : ByteArray), .int .i64 0]) ?_ 1 _ rfl; refine blk_put (cs := #[.string (⟨#[]⟩ : ByteArray), .string (⟨#[]⟩ : ByteArray), .int .i64 0]) ?_ 0 _ rfl; exact u0) Tryd.underlying24 rfl (by kernel_rfl)) rfl ?_
  refine ⟨at_end ?_, below_set (below_set (below_set u5 (Nat.le_refl _)) (Nat.le_refl _)) (Nat.le_refl _)⟩
  have e : (m ++ 32 :: t).length = m.length + t.length + 1 := by simp; omega
  rw [size_ofL, e, wrap64_ok (by omega) (by omega)]; omega



end Go.Proofs.YtiolgglipcijpaaDoor.RParse
end

section
namespace Go.Proofs.YtiolgglipcijpaaDoor.RParse
open Go Go.RowKit Go.Proofs.YtiolgglipcijpaaDoorW.PrintWords Go.Proofs.YtiolgglipcijpaaDoor.PB Go.Proofs.YtiolgglipcijpaaDoor.P Go.Proofs.YtiolgglipcijpaaDoor.LSpec Go.Proofs.YtiolgglipcijpaaDoor.RSpec
open Go.Proofs.YtiolgglipcijpaaDoor.ROct (tokB visB isTok isVis)

set_option maxHeartbeats 8000000 in
set_option maxRecDepth 100000 in
theorem Parse_ok0 (s : ByteArray) (hs : s.size ≤ 100000) (m t v : List UInt8) (hm : m.length ≤ 100000) (ht : t.length ≤ 100000) (hsp : splitL 32 (toL s) = [m, t, v]) (h0 : isTok (ofL m) = true) (h1 : isVis (ofL t) = true) (h2 : verL v = true) (h3 : supL v = true) (n : Nat) (hn : n < s.size) (hn1 : s.size = n + 1) (hd : s[n].toNat = 48) (w : World) (hG : Glob w) :
    Calls Tryd.prog 12 #[.string s] w fun e w' => e = .returned (.tuple #[.agg #[.string (ofL m), .string (ofL t), .int .i64 0], .nilIface]) ∧ Below w.heap.size w w' := by
  have hG1 : Glob (w.alloc (.cells #[.string ⟨#[]⟩, .string ⟨#[]⟩, .int .i64 0] 24)) := hG.below ((Below.refl _ _).alloc (Nat.le_refl _) _)
  obtain ⟨c0, c1, c2, c3, c4, c5, c6, c7, c8, c9, c10, c11⟩ := rule_cells hG m t v
  unfold W2 at c0 c1 c2 c3 c4 c5 c6 c7 c8 c9 c10 c11
  have i0 := rule0
  have i1 := rule1
  have i2 := rule2
  have i3 := rule3
  unfold rulesA at i0 i1 i2 i3
  have sf := store_func
  have hR0 := Ready.first w m t v
  have k0 := ROct.IsToken_calls (ofL m) (by rw [size_ofL]; omega)
  rw [h0] at k0
  have k1 := ROct.rule1_calls (ofL t) (by rw [size_ofL]; omega)
  rw [h1] at k1
  have k2 := fun W => reqline_version.calls (ofL v) true W (by rw [version_f, toL_ofL, h2])
  have k3 := fun W => reqline_supported.calls (ofL v) true W (by rw [supported_f, toL_ofL, h3])
  have hw : wrap64 ((s.size : Int) - 1) = (n : Int) := by rw [wrap64_ok (by omega) (by omega)]; omega
  have hw2 : IntKind.i64.wrap ((s.size : Int) - 1) = (n : Int) := (show IntKind.i64.wrap _ = wrap64 _ by unfold Go.RowKit.wrap64; exact IntKind.wrap_i64 _).trans hw
  clear hn1
  go_enter Tryd.func12, Tryd.ntmps12
  go_wp2_with (first | (go_at_call 29; refine (Split_three s hs m t v hsp _ hG1).mono ?_; rintro e w1 ⟨rfl, rfl⟩))
  clear c0 c1 c2 c3 c4 c5 c6 c7 c8 c9 c10 c11
  refine wp_loop_rounds 5 ?_
  generalize (w.alloc (.cells #[.string ⟨#[]⟩, .string ⟨#[]⟩, .int .i64 0] 24)).alloc (.cells #[.string (ofL m), .string (ofL t), .string (ofL v)] 9) = W0 at hR0 ⊢
  have hRR0 := hR0
  obtain ⟨q0, q1, q2, q3, q4, q5⟩ := hRR0
  obtain ⟨s0, s1, s2, z0, z1, z2⟩ := res_cells q0
  have q6 : w.heap.size < W0.heap.size := by omega
  rw [rounds_succ]
  go_wp2
  go_quiet (exact quiet_drawn k0 _ _)
  go_wp2
  have hR1 := (hR0.alloc (.cells #[.int .i64 0, .func (.func 167) #[] #[], .int .i64 400] 61)).drewN nq
  clear q0 q1 q2 q3 q4 q5 s0 s1 s2 z0 z1 z2 q6
  generalize (W0.alloc (.cells #[.int .i64 0, .func (.func 167) #[] #[], .int .i64 400] 61)).drewN nq = W1 at hR1 ⊢
  have hRR1 := hR1
  obtain ⟨q0, q1, q2, q3, q4, q5⟩ := hRR1
  obtain ⟨s0, s1, s2, z0, z1, z2⟩ := res_cells q0
  have q6 : w.heap.size < W1.heap.size := by omega
  rw [rounds_succ]
  go_wp2
  go_quiet (exact quiet_drawn k1 _ _)
  go_wp2
  have hR2 := (hR1.alloc (.cells #[.int .i64 1, .func (.func 168) #[] #[], .int .i64 400] 61)).drewN nq
  clear q0 q1 q2 q3 q4 q5 s0 s1 s2 z0 z1 z2 q6
  generalize (W1.alloc (.cells #[.int .i64 1, .func (.func 168) #[] #[], .int .i64 400] 61)).drewN nq = W2 at hR2 ⊢
  have hRR2 := hR2
  obtain ⟨q0, q1, q2, q3, q4, q5⟩ := hRR2
  obtain ⟨s0, s1, s2, z0, z1, z2⟩ := res_cells q0
  have q6 : w.heap.size < W2.heap.size := by omega
  rw [rounds_succ]
  go_wp2
  go_quiet (exact quiet_drawn k2 _ _)
  go_wp2
  have hR3 := (hR2.alloc (.cells #[.int .i64 2, .func (.func 171) #[] #[], .int .i64 400] 61)).drewN nq
  clear q0 q1 q2 q3 q4 q5 s0 s1 s2 z0 z1 z2 q6
  generalize (W2.alloc (.cells #[.int .i64 2, .func (.func 171) #[] #[], .int .i64 400] 61)).drewN nq = W3 at hR3 ⊢
  have hRR3 := hR3
  obtain ⟨q0, q1, q2, q3, q4, q5⟩ := hRR3
  obtain ⟨s0, s1, s2, z0, z1, z2⟩ := res_cells q0
  have q6 : w.heap.size < W3.heap.size := by omega
  rw [rounds_succ]
  go_wp2
  go_quiet (exact quiet_drawn k3 _ _)
  go_wp2
  have hR4 := (hR3.alloc (.cells #[.int .i64 2, .func (.func 172) #[] #[], .int .i64 505] 61)).drewN nq
  clear q0 q1 q2 q3 q4 q5 s0 s1 s2 z0 z1 z2 q6
  generalize (W3.alloc (.cells #[.int .i64 2, .func (.func 172) #[] #[], .int .i64 505] 61)).drewN nq = W4 at hR4 ⊢
  have hRR4 := hR4
  obtain ⟨q0, q1, q2, q3, q4, q5⟩ := hRR4
  obtain ⟨s0, s1, s2, z0, z1, z2⟩ := res_cells q0
  have q6 : w.heap.size < W4.heap.size := by omega
  rw [rounds_succ]
  go_wp2
  go_still_tail 14, (by kernel_rfl)
  change wpList _ _ _ _ _ W4.drew
  have hR5 := hR4.drewN 1
  change Ready w W4.drew m t v at hR5
  clear q0 q1 q2 q3 q4 q5 s0 s1 s2 z0 z1 z2 q6
  generalize W4.drew = W5 at hR5 ⊢
  have hRR5 := hR5
  obtain ⟨q0, q1, q2, q3, q4, q5⟩ := hRR5
  obtain ⟨s0, s1, s2, z0, z1, z2⟩ := res_cells q0
  have q6 : w.heap.size < W5.heap.size := by omega
  go_wp2
  refine bodyPost_ret (results_ct rfl _ _ w.heap.size 24 #[.string (ofL m), .string (ofL t), .int .i64 0] (0, 0) _ rfl (by refine blk_put (cs := #[.string (ofL m), .string (ofL t), .int .i64 0]) ?_ 2 _ rfl; refine blk_put (cs := #[.string (ofL m), .string (⟨#[]⟩ : ByteArray), .int .i64 0]) ?_ 1 _ rfl; refine blk_put (cs := #[.string (⟨#[]⟩ : ByteArray), .string (⟨#[]⟩ : ByteArray), .int .i64 0]) ?_ 0 _ rfl; exact q0) Tryd.underlying24 rfl (by kernel_rfl)) rfl ?_
  exact ⟨rfl, below_set (below_set (below_set q5 (Nat.le_refl _)) (Nat.le_refl _)) (Nat.le_refl _)⟩


set_option maxHeartbeats 8000000 in
set_option maxRecDepth 100000 in
theorem Parse_ok1 (s : ByteArray) (hs : s.size ≤ 100000) (m t v : List UInt8) (hm : m.length ≤ 100000) (ht : t.length ≤ 100000) (hsp : splitL 32 (toL s) = [m, t, v]) (h0 : isTok (ofL m) = true) (h1 : isVis (ofL t) = true) (h2 : verL v = true) (h3 : supL v = true) (n : Nat) (hn : n < s.size) (hn1 : s.size = n + 1) (hd : s[n].toNat = 49) (w : World) (hG : Glob w) :
    Calls Tryd.prog 12 #[.string s] w fun e w' => e = .returned (.tuple #[.agg #[.string (ofL m), .string (ofL t), .int .i64 1], .nilIface]) ∧ Below w.heap.size w w' := by
  have hG1 : Glob (w.alloc (.cells #[.string ⟨#[]⟩, .string ⟨#[]⟩, .int .i64 0] 24)) := hG.below ((Below.refl _ _).alloc (Nat.le_refl _) _)
  obtain ⟨c0, c1, c2, c3, c4, c5, c6, c7, c8, c9, c10, c11⟩ := rule_cells hG m t v
  unfold W2 at c0 c1 c2 c3 c4 c5 c6 c7 c8 c9 c10 c11
  have i0 := rule0
  have i1 := rule1
  have i2 := rule2
  have i3 := rule3
  unfold rulesA at i0 i1 i2 i3
  have sf := store_func
  have hR0 := Ready.first w m t v
  have k0 := ROct.IsToken_calls (ofL m) (by rw [size_ofL]; omega)
  rw [h0] at k0
  have k1 := ROct.rule1_calls (ofL t) (by rw [size_ofL]; omega)
  rw [h1] at k1
  have k2 := fun W => reqline_version.calls (ofL v) true W (by rw [version_f, toL_ofL, h2])
  have k3 := fun W => reqline_supported.calls (ofL v) true W (by rw [supported_f, toL_ofL, h3])
  have hw : wrap64 ((s.size : Int) - 1) = (n : Int) := by rw [wrap64_ok (by omega) (by omega)]; omega
  have hw2 : IntKind.i64.wrap ((s.size : Int) - 1) = (n : Int) := (show IntKind.i64.wrap _ = wrap64 _ by unfold Go.RowKit.wrap64; exact IntKind.wrap_i64 _).trans hw
  clear hn1
  go_enter Tryd.func12, Tryd.ntmps12
  go_wp2_with (first | (go_at_call 29; refine (Split_three s hs m t v hsp _ hG1).mono ?_; rintro e w1 ⟨rfl, rfl⟩))
  clear c0 c1 c2 c3 c4 c5 c6 c7 c8 c9 c10 c11
  refine wp_loop_rounds 5 ?_
  generalize (w.alloc (.cells #[.string ⟨#[]⟩, .string ⟨#[]⟩, .int .i64 0] 24)).alloc (.cells #[.string (ofL m), .string (ofL t), .string (ofL v)] 9) = W0 at hR0 ⊢
  have hRR0 := hR0
  obtain ⟨q0, q1, q2, q3, q4, q5⟩ := hRR0
  obtain ⟨s0, s1, s2, z0, z1, z2⟩ := res_cells q0
  have q6 : w.heap.size < W0.heap.size := by omega
  rw [rounds_succ]
  go_wp2
  go_quiet (exact quiet_drawn k0 _ _)
  go_wp2
  have hR1 := (hR0.alloc (.cells #[.int .i64 0, .func (.func 167) #[] #[], .int .i64 400] 61)).drewN nq
  clear q0 q1 q2 q3 q4 q5 s0 s1 s2 z0 z1 z2 q6
  generalize (W0.alloc (.cells #[.int .i64 0, .func (.func 167) #[] #[], .int .i64 400] 61)).drewN nq = W1 at hR1 ⊢
  have hRR1 := hR1
  obtain ⟨q0, q1, q2, q3, q4, q5⟩ := hRR1
  obtain ⟨s0, s1, s2, z0, z1, z2⟩ := res_cells q0
  have q6 : w.heap.size < W1.heap.size := by omega
  rw [rounds_succ]
  go_wp2
  go_quiet (exact quiet_drawn k1 _ _)
  go_wp2
  have hR2 := (hR1.alloc (.cells #[.int .i64 1, .func (.func 168) #[] #[], .int .i64 400] 61)).drewN nq
  clear q0 q1 q2 q3 q4 q5 s0 s1 s2 z0 z1 z2 q6
  generalize (W1.alloc (.cells #[.int .i64 1, .func (.func 168) #[] #[], .int .i64 400] 61)).drewN nq = W2 at hR2 ⊢
  have hRR2 := hR2
  obtain ⟨q0, q1, q2, q3, q4, q5⟩ := hRR2
  obtain ⟨s0, s1, s2, z0, z1, z2⟩ := res_cells q0
  have q6 : w.heap.size < W2.heap.size := by omega
  rw [rounds_succ]
  go_wp2
  go_quiet (exact quiet_drawn k2 _ _)
  go_wp2
  have hR3 := (hR2.alloc (.cells #[.int .i64 2, .func (.func 171) #[] #[], .int .i64 400] 61)).drewN nq
  clear q0 q1 q2 q3 q4 q5 s0 s1 s2 z0 z1 z2 q6
  generalize (W2.alloc (.cells #[.int .i64 2, .func (.func 171) #[] #[], .int .i64 400] 61)).drewN nq = W3 at hR3 ⊢
  have hRR3 := hR3
  obtain ⟨q0, q1, q2, q3, q4, q5⟩ := hRR3
  obtain ⟨s0, s1, s2, z0, z1, z2⟩ := res_cells q0
  have q6 : w.heap.size < W3.heap.size := by omega
  rw [rounds_succ]
  go_wp2
  go_quiet (exact quiet_drawn k3 _ _)
  go_wp2
  have hR4 := (hR3.alloc (.cells #[.int .i64 2, .func (.func 172) #[] #[], .int .i64 505] 61)).drewN nq
  clear q0 q1 q2 q3 q4 q5 s0 s1 s2 z0 z1 z2 q6
  generalize (W3.alloc (.cells #[.int .i64 2, .func (.func 172) #[] #[], .int .i64 505] 61)).drewN nq = W4 at hR4 ⊢
  have hRR4 := hR4
  obtain ⟨q0, q1, q2, q3, q4, q5⟩ := hRR4
  obtain ⟨s0, s1, s2, z0, z1, z2⟩ := res_cells q0
  have q6 : w.heap.size < W4.heap.size := by omega
  rw [rounds_succ]
  go_wp2
  go_still_tail 14, (by kernel_rfl)
  change wpList _ _ _ _ _ W4.drew
  have hR5 := hR4.drewN 1
  change Ready w W4.drew m t v at hR5
  clear q0 q1 q2 q3 q4 q5 s0 s1 s2 z0 z1 z2 q6
  generalize W4.drew = W5 at hR5 ⊢
  have hRR5 := hR5
  obtain ⟨q0, q1, q2, q3, q4, q5⟩ := hRR5
  obtain ⟨s0, s1, s2, z0, z1, z2⟩ := res_cells q0
  have q6 : w.heap.size < W5.heap.size := by omega
  go_wp2
  refine bodyPost_ret (results_ct rfl _ _ w.heap.size 24 #[.string (ofL m), .string (ofL t), .int .i64 1] (0, 0) _ rfl (by refine blk_put (cs := #[.string (ofL m), .string (ofL t), .int .i64 0]) ?_ 2 _ rfl; refine blk_put (cs := #[.string (ofL m), .string (⟨#[]⟩ : ByteArray), .int .i64 0]) ?_ 1 _ rfl; refine blk_put (cs := #[.string (⟨#[]⟩ : ByteArray), .string (⟨#[]⟩ : ByteArray), .int .i64 0]) ?_ 0 _ rfl; exact q0) Tryd.underlying24 rfl (by kernel_rfl)) rfl ?_
  exact ⟨rfl, below_set (below_set (below_set q5 (Nat.le_refl _)) (Nat.le_refl _)) (Nat.le_refl _)⟩



end Go.Proofs.YtiolgglipcijpaaDoor.RParse
end

section
namespace Go.Proofs.YtiolgglipcijpaaDoor.P
open Go Go.RowKit Go.Maps Go.WideMaps Go.Proofs.YtiolgglipcijpaaDoorW.PrintWords

theorem le_max {n : Nat} (h : n ≤ 100) : n ≤ maxLen := by unfold maxLen; omega
theorem lt_max {n : Nat} (h : n < 100) : n < maxLen := by unfold maxLen; omega
def kd (D : DataW Unit) (l : List UInt8) (v : Int) : DataW Unit := D.put (.string l) (.lit (.int .i64 v))
/-- what the map reads as. -/
def KD : DataW Unit := kd (kd (kd (kd (kd (kd (kd (kd (kd (.map []) [71, 69, 84] 1) [72, 69, 65, 68] 2) [79, 80, 84, 73, 79, 78, 83] 3) [80, 79, 83, 84] 4) [80, 85, 84] 4) [68, 69, 76, 69, 84, 69] 4) [80, 65, 84, 67, 72] 4) [84, 82, 65, 67, 69] 4) [67, 79, 78, 78, 69, 67, 84] 4

theorem ix0 (w : World) : (Instr.index 72 (.agg #[.string ⟨#[80, 79, 83, 84]⟩, .string ⟨#[80, 85, 84]⟩, .string ⟨#[68, 69, 76, 69, 84, 69]⟩, .string ⟨#[80, 65, 84, 67, 72]⟩, .string ⟨#[84, 82, 65, 67, 69]⟩, .string ⟨#[67, 79, 78, 78, 69, 67, 84]⟩]) (.int .i64 0)).run Tryd.prog w = .ok (.string ⟨#[80, 79, 83, 84]⟩) w := by kernel_rfl
theorem ix1 (w : World) : (Instr.index 72 (.agg #[.string ⟨#[80, 79, 83, 84]⟩, .string ⟨#[80, 85, 84]⟩, .string ⟨#[68, 69, 76, 69, 84, 69]⟩, .string ⟨#[80, 65, 84, 67, 72]⟩, .string ⟨#[84, 82, 65, 67, 69]⟩, .string ⟨#[67, 79, 78, 78, 69, 67, 84]⟩]) (.int .i64 1)).run Tryd.prog w = .ok (.string ⟨#[80, 85, 84]⟩) w := by kernel_rfl
theorem ix2 (w : World) : (Instr.index 72 (.agg #[.string ⟨#[80, 79, 83, 84]⟩, .string ⟨#[80, 85, 84]⟩, .string ⟨#[68, 69, 76, 69, 84, 69]⟩, .string ⟨#[80, 65, 84, 67, 72]⟩, .string ⟨#[84, 82, 65, 67, 69]⟩, .string ⟨#[67, 79, 78, 78, 69, 67, 84]⟩]) (.int .i64 2)).run Tryd.prog w = .ok (.string ⟨#[68, 69, 76, 69, 84, 69]⟩) w := by kernel_rfl
theorem ix3 (w : World) : (Instr.index 72 (.agg #[.string ⟨#[80, 79, 83, 84]⟩, .string ⟨#[80, 85, 84]⟩, .string ⟨#[68, 69, 76, 69, 84, 69]⟩, .string ⟨#[80, 65, 84, 67, 72]⟩, .string ⟨#[84, 82, 65, 67, 69]⟩, .string ⟨#[67, 79, 78, 78, 69, 67, 84]⟩]) (.int .i64 3)).run Tryd.prog w = .ok (.string ⟨#[80, 65, 84, 67, 72]⟩) w := by kernel_rfl
theorem ix4 (w : World) : (Instr.index 72 (.agg #[.string ⟨#[80, 79, 83, 84]⟩, .string ⟨#[80, 85, 84]⟩, .string ⟨#[68, 69, 76, 69, 84, 69]⟩, .string ⟨#[80, 65, 84, 67, 72]⟩, .string ⟨#[84, 82, 65, 67, 69]⟩, .string ⟨#[67, 79, 78, 78, 69, 67, 84]⟩]) (.int .i64 4)).run Tryd.prog w = .ok (.string ⟨#[84, 82, 65, 67, 69]⟩) w := by kernel_rfl
theorem ix5 (w : World) : (Instr.index 72 (.agg #[.string ⟨#[80, 79, 83, 84]⟩, .string ⟨#[80, 85, 84]⟩, .string ⟨#[68, 69, 76, 69, 84, 69]⟩, .string ⟨#[80, 65, 84, 67, 72]⟩, .string ⟨#[84, 82, 65, 67, 69]⟩, .string ⟨#[67, 79, 78, 78, 69, 67, 84]⟩]) (.int .i64 5)).run Tryd.prog w = .ok (.string ⟨#[67, 79, 78, 78, 69, 67, 84]⟩) w := by kernel_rfl
set_option maxRecDepth 100000 in
theorem kinds_calls (w : World) (hG : Glob w) : Calls Tryd.prog 36 #[] w fun e w' => ∃ b, e = .returned (.map (some b)) ∧ w.heap.size ≤ b ∧ w'.ownsMap (H := Unit) Tryd.prog 9 (plainElem Tryd.prog 3) b 9 KD ∧ Below w.heap.size w w' := by
  have g0 : w.cell? ⟨1, 0, none⟩ = some (.string ⟨#[80, 79, 83, 84]⟩) := hG.others 0 (by omega)
  have g1 : w.cell? ⟨1, 1, none⟩ = some (.string ⟨#[80, 85, 84]⟩) := hG.others 1 (by omega)
  have g2 : w.cell? ⟨1, 2, none⟩ = some (.string ⟨#[68, 69, 76, 69, 84, 69]⟩) := hG.others 2 (by omega)
  have g3 : w.cell? ⟨1, 3, none⟩ = some (.string ⟨#[80, 65, 84, 67, 72]⟩) := hG.others 3 (by omega)
  have g4 : w.cell? ⟨1, 4, none⟩ = some (.string ⟨#[84, 82, 65, 67, 69]⟩) := hG.others 4 (by omega)
  have g5 : w.cell? ⟨1, 5, none⟩ = some (.string ⟨#[67, 79, 78, 78, 69, 67, 84]⟩) := hG.others 5 (by omega)
  have hlt : 1 < w.heap.size := World.block_lt_of_cell? w _ g0
  have hmm := @run_makeMap Tryd.prog
  have o0 := World.ownsMap_made (H := Unit) w Tryd.prog 9 (plainElem Tryd.prog 3)
  have b0 := (Below.refl w.heap.size w).alloc (Nat.le_refl _) (.map #[] 0)
  obtain ⟨w1, r1, o1, u1⟩ := o0.update (string_keyed Tryd.underlying9) Tryd.underlying70 (lt_max (by decide)) (key := .string ⟨#[71, 69, 84]⟩) (val := .int .i64 1) (keyOf_string_mk Tryd.underlying9 (le_max (by decide))) (plainElem_int Tryd.underlying3 (by decide))
  have b1 := Below.grown b0 u1 b0.size (fun k hk => by cases hk; exact Nat.le_refl _)
  obtain ⟨w2, r2, o2, u2⟩ := o1.update (string_keyed Tryd.underlying9) Tryd.underlying70 (lt_max (by decide)) (key := .string ⟨#[72, 69, 65, 68]⟩) (val := .int .i64 2) (keyOf_string_mk Tryd.underlying9 (le_max (by decide))) (plainElem_int Tryd.underlying3 (by decide))
  have b2 := Below.grown b1 u2 b1.size (fun k hk => by cases hk; exact Nat.le_refl _)
  obtain ⟨w3, r3, o3, u3⟩ := o2.update (string_keyed Tryd.underlying9) Tryd.underlying70 (lt_max (by decide)) (key := .string ⟨#[79, 80, 84, 73, 79, 78, 83]⟩) (val := .int .i64 3) (keyOf_string_mk Tryd.underlying9 (le_max (by decide))) (plainElem_int Tryd.underlying3 (by decide))
  have b3 := Below.grown b2 u3 b2.size (fun k hk => by cases hk; exact Nat.le_refl _)
  obtain ⟨w4, r4, o4, u4⟩ := o3.update (string_keyed Tryd.underlying9) Tryd.underlying70 (lt_max (by decide)) (key := .string ⟨#[80, 79, 83, 84]⟩) (val := .int .i64 4) (keyOf_string_mk Tryd.underlying9 (le_max (by decide))) (plainElem_int Tryd.underlying3 (by decide))
  have b4 := Below.grown b3 u4 b3.size (fun k hk => by cases hk; exact Nat.le_refl _)
  obtain ⟨w5, r5, o5, u5⟩ := o4.update (string_keyed Tryd.underlying9) Tryd.underlying70 (lt_max (by decide)) (key := .string ⟨#[80, 85, 84]⟩) (val := .int .i64 4) (keyOf_string_mk Tryd.underlying9 (le_max (by decide))) (plainElem_int Tryd.underlying3 (by decide))
  have b5 := Below.grown b4 u5 b4.size (fun k hk => by cases hk; exact Nat.le_refl _)
  obtain ⟨w6, r6, o6, u6⟩ := o5.update (string_keyed Tryd.underlying9) Tryd.underlying70 (lt_max (by decide)) (key := .string ⟨#[68, 69, 76, 69, 84, 69]⟩) (val := .int .i64 4) (keyOf_string_mk Tryd.underlying9 (le_max (by decide))) (plainElem_int Tryd.underlying3 (by decide))
  have b6 := Below.grown b5 u6 b5.size (fun k hk => by cases hk; exact Nat.le_refl _)
  obtain ⟨w7, r7, o7, u7⟩ := o6.update (string_keyed Tryd.underlying9) Tryd.underlying70 (lt_max (by decide)) (key := .string ⟨#[80, 65, 84, 67, 72]⟩) (val := .int .i64 4) (keyOf_string_mk Tryd.underlying9 (le_max (by decide))) (plainElem_int Tryd.underlying3 (by decide))
  have b7 := Below.grown b6 u7 b6.size (fun k hk => by cases hk; exact Nat.le_refl _)
  obtain ⟨w8, r8, o8, u8⟩ := o7.update (string_keyed Tryd.underlying9) Tryd.underlying70 (lt_max (by decide)) (key := .string ⟨#[84, 82, 65, 67, 69]⟩) (val := .int .i64 4) (keyOf_string_mk Tryd.underlying9 (le_max (by decide))) (plainElem_int Tryd.underlying3 (by decide))
  have b8 := Below.grown b7 u8 b7.size (fun k hk => by cases hk; exact Nat.le_refl _)
  obtain ⟨w9, r9, o9, u9⟩ := o8.update (string_keyed Tryd.underlying9) Tryd.underlying70 (lt_max (by decide)) (key := .string ⟨#[67, 79, 78, 78, 69, 67, 84]⟩) (val := .int .i64 4) (keyOf_string_mk Tryd.underlying9 (le_max (by decide))) (plainElem_int Tryd.underlying3 (by decide))
  have b9 := Below.grown b8 u9 b8.size (fun k hk => by cases hk; exact Nat.le_refl _)
  replace g0 : w3.cell? ⟨1, 0, none⟩ = _ := (b3.cell hlt).trans g0
  replace g1 : w3.cell? ⟨1, 1, none⟩ = _ := (b3.cell hlt).trans g1
  replace g2 : w3.cell? ⟨1, 2, none⟩ = _ := (b3.cell hlt).trans g2
  replace g3 : w3.cell? ⟨1, 3, none⟩ = _ := (b3.cell hlt).trans g3
  replace g4 : w3.cell? ⟨1, 4, none⟩ = _ := (b3.cell hlt).trans g4
  replace g5 : w3.cell? ⟨1, 5, none⟩ = _ := (b3.cell hlt).trans g5

  have i0 := ix0
  have i1 := ix1
  have i2 := ix2
  have i3 := ix3
  have i4 := ix4
  have i5 := ix5
  go_enter Tryd.func36, Tryd.ntmps36
  go_wp2
  refine wp_loop_rounds 7 ?_
  iterate 7 (rw [rounds_succ]; go_wp2)
  go_ret
  exact ⟨_, rfl, Nat.le_refl _, o9, b9⟩

def kindL (l : List UInt8) : Int :=
  if l = [67, 79, 78, 78, 69, 67, 84] then 4 else if l = [84, 82, 65, 67, 69] then 4 else if l = [80, 65, 84, 67, 72] then 4 else if l = [68, 69, 76, 69, 84, 69] then 4
  else if l = [80, 85, 84] then 4 else if l = [80, 79, 83, 84] then 4 else if l = [79, 80, 84, 73, 79, 78, 83] then 3 else if l = [72, 69, 65, 68] then 2 else if l = [71, 69, 84] then 1 else 0
theorem kd_map (D : DataW Unit) (hD : IsMap D) (l : List UInt8) (v : Int) : IsMap (kd D l v) := by unfold kd; exact hD.put _ _
theorem kd_at (D : DataW Unit) (hD : IsMap D) (k l : List UInt8) (v x : Int) (h : D.atKey (.string l) (.lit (.int .i64 0)) = .lit (.int .i64 x)) :
    (kd D k v).atKey (.string l) (.lit (.int .i64 0)) = .lit (.int .i64 (if l = k then v else x)) := by
  unfold kd
  by_cases e : l = k
  · rw [if_pos e, e]; exact atKey_put_same hD (by trivial) _ _
  · rw [if_neg e, atKey_put_other (by simpa using e)]; exact h
theorem KD_at (l : List UInt8) : KD.atKey (.string l) (.lit (.int .i64 0)) = .lit (.int .i64 (kindL l)) := by
  unfold KD kindL
  repeat first | exact isMap_empty | apply kd_map | exact rfl | apply kd_at

theorem zero3 (w : World) : (zeroValue 3).run Tryd.prog w = .ok (.int .i64 0) w := by kernel_rfl
def reqline_Kind.f (s : ByteArray) : Option Int := if s.size ≤ 1000 then some (kindL s.data.toList) else none
set_option maxRecDepth 100000 in
theorem reqline_Kind.calls (a0 : ByteArray) (r : Int) (w : World) (h : reqline_Kind.f a0 = some r) (hG : Glob w) :
    Calls Tryd.prog 17 #[.string a0] w fun e w' => e = .returned (.int .i64 r) ∧ Below w.heap.size w w' := by
  unfold reqline_Kind.f at h
  split at h
  · rename_i hs
    cases h
    go_enter Tryd.func17, Tryd.ntmps17
    go_wp2_with (go_at_call 36; refine (kinds_calls _ hG).mono ?_; rintro e w1 ⟨b, rfl, hb, ho, hB⟩; obtain ⟨c, hrun, hat, _⟩ := ho.lookup_int (string_keyed Tryd.underlying9) Tryd.underlying70 Tryd.underlying3 (zero3 _) (keyOf_string_mk Tryd.underlying9 (s := a0) (by unfold maxLen; omega)))
    go_ret
    rw [KD_at] at hat
    obtain rfl : kindL a0.data.toList = c := by simpa using hat
    exact ⟨rfl, hB⟩
  · cases h

end Go.Proofs.YtiolgglipcijpaaDoor.P
end

section
namespace Go.Proofs.YtiolgglipcijpaaDoor.P
open Go Go.RowKit Go.Proofs.YtiolgglipcijpaaDoorW.PrintWords

def othersL : List ByteArray := [⟨#[80, 79, 83, 84]⟩, ⟨#[80, 85, 84]⟩, ⟨#[68, 69, 76, 69, 84, 69]⟩, ⟨#[80, 65, 84, 67, 72]⟩, ⟨#[84, 82, 65, 67, 69]⟩, ⟨#[67, 79, 78, 78, 69, 67, 84]⟩]
theorem others_C {w : World} (hG : Glob w) : Kd.C Kd.string w (some ⟨1, 0, none⟩) 6 othersL := by
  refine Kd.C_of_reads (enc := Value.string) (d := ByteArray.empty) (h1 := fun _ => rfl) ⟨rfl, by omega, fun _ => ⟨⟨1, 0, none⟩, rfl, fun j hj => ?_⟩⟩
  have h := hG.others j hj
  rw [show (⟨1, 0, none⟩ : Addr).add j = ⟨1, j, none⟩ by simp [Addr.add_lit], h]
  congr 2
  rw [List.getD_eq_getElem?_getD, List.getElem?_eq_getElem (by exact hj)]
  rfl
def methL (k : Int) : List ByteArray := if k = 1 then [⟨#[71, 69, 84]⟩] else if k = 2 then [⟨#[72, 69, 65, 68]⟩] else if k = 3 then [⟨#[79, 80, 84, 73, 79, 78, 83]⟩] else if k = 4 then othersL else []
def reqline_Methods.f (k : Int) : Option (List ByteArray) := some (methL k)
set_option maxHeartbeats 1000000 in
set_option maxRecDepth 100000 in
theorem reqline_Methods.calls (a0 : Int) (r : List ByteArray) (w : World) (h : reqline_Methods.f a0 = some r) (hG : Glob w) :
    Calls Tryd.prog 19 #[.int .i64 a0] w fun e w' => ∃ v0_ : Value, e = .returned (v0_) ∧ Kd.R Kd.string 9 w' w.heap.size (fun _ => True) v0_ r ∧ Below w.heap.size w w' := by
  obtain rfl : methL a0 = r := by simpa [reqline_Methods.f] using h
  unfold methL
  by_cases h1 : a0 = 1
  · subst h1
    rw [if_pos rfl]
    go_enter Tryd.func19, Tryd.ntmps19
    go_wp2_with ((with_reducible refine gate_dst (N := 6) rfl ?_); (try (refine gate_guard (by rfl) ?_; dsimp only)); refine Kd.R_lit Kd.string _ 9 ?hg (N := 6) ?hd (xs := ([(⟨#[71, 69, 84]⟩ : ByteArray)] : List ByteArray)) (inner := [.string (⟨#[71, 69, 84]⟩ : ByteArray)]) (ok := fun _ => True) (okp := fun _ => True) ?hr ?hp (fun _ hk => hk) trivial (Below.refl _ _) (Nat.le_refl _) (by simp) ?_; (case hd => rfl); (case hg => rfl); (case hr => first | (go_simp; done) | (go_simp; rfl)); (case hp => exact (Reps.one (show Kd.M Kd.string _ _ _ (⟨#[71, 69, 84]⟩ : ByteArray) [.string (⟨#[71, 69, 84]⟩ : ByteArray)] from rfl) (Reps.none _ _))); intro v w1 ho hb hg_ hnew_)
    go_ret
    exact ⟨_, rfl, ho, hb⟩
  rw [if_neg h1]
  by_cases h2 : a0 = 2
  · subst h2
    rw [if_pos rfl]
    go_enter Tryd.func19, Tryd.ntmps19
    go_wp2_with ((with_reducible refine gate_dst (N := 9) rfl ?_); (try (refine gate_guard (by rfl) ?_; dsimp only)); refine Kd.R_lit Kd.string _ 9 ?hg (N := 9) ?hd (xs := ([(⟨#[72, 69, 65, 68]⟩ : ByteArray)] : List ByteArray)) (inner := [.string (⟨#[72, 69, 65, 68]⟩ : ByteArray)]) (ok := fun _ => True) (okp := fun _ => True) ?hr ?hp (fun _ hk => hk) trivial (Below.refl _ _) (Nat.le_refl _) (by simp) ?_; (case hd => rfl); (case hg => rfl); (case hr => first | (go_simp; done) | (go_simp; rfl)); (case hp => exact (Reps.one (show Kd.M Kd.string _ _ _ (⟨#[72, 69, 65, 68]⟩ : ByteArray) [.string (⟨#[72, 69, 65, 68]⟩ : ByteArray)] from rfl) (Reps.none _ _))); intro v w1 ho hb hg_ hnew_)
    go_ret
    exact ⟨_, rfl, ho, hb⟩
  rw [if_neg h2]
  by_cases h3 : a0 = 3
  · subst h3
    rw [if_pos rfl]
    go_enter Tryd.func19, Tryd.ntmps19
    go_wp2_with ((with_reducible refine gate_dst (N := 12) rfl ?_); (try (refine gate_guard (by rfl) ?_; dsimp only)); refine Kd.R_lit Kd.string _ 9 ?hg (N := 12) ?hd (xs := ([(⟨#[79, 80, 84, 73, 79, 78, 83]⟩ : ByteArray)] : List ByteArray)) (inner := [.string (⟨#[79, 80, 84, 73, 79, 78, 83]⟩ : ByteArray)]) (ok := fun _ => True) (okp := fun _ => True) ?hr ?hp (fun _ hk => hk) trivial (Below.refl _ _) (Nat.le_refl _) (by simp) ?_; (case hd => rfl); (case hg => rfl); (case hr => first | (go_simp; done) | (go_simp; rfl)); (case hp => exact (Reps.one (show Kd.M Kd.string _ _ _ (⟨#[79, 80, 84, 73, 79, 78, 83]⟩ : ByteArray) [.string (⟨#[79, 80, 84, 73, 79, 78, 83]⟩ : ByteArray)] from rfl) (Reps.none _ _))); intro v w1 ho hb hg_ hnew_)
    go_ret
    exact ⟨_, rfl, ho, hb⟩
  rw [if_neg h3]
  by_cases h4 : a0 = 4
  · subst h4
    rw [if_pos rfl]
    go_enter Tryd.func19, Tryd.ntmps19
    go_wp2_with ((with_reducible refine gate_builtin (b := .append) (xs := #[.const (.slice none 0 0), .tmp 15]) rfl ?_); (try (refine gate_guard (by rfl) ?_; dsimp only)); at_builtin; refine Kd.R_append_rows Kd.string (w0 := w) w.heap.size rfl (.const (.slice none 0 0)) (.tmp 15) 38 9 (.string ⟨#[]⟩) 16 rfl Tryd.underlying38 info9 rfl (by decide) (by omega) (.slice none 0 0) ([] : List ByteArray) othersL _ _ _ (fun _ => True) (fun _ => False) rfl rfl ?aO ?aR (fun _ _ h => h) (fun _ h => h.elim) (fun _ _ => trivial) (Below.refl _ _) (Nat.le_refl _) ?aL ?_; (case aR => exact others_C hG); (case aO => exact Kd.R_nil _ _ _ _ _); (case aL => decide); intro v w1 ho hb hg hat)
    go_ret
    exact ⟨_, rfl, ho, hb⟩
  rw [if_neg h4]
  have e1 : (a0 == 1) = false := by simpa using h1
  have e2 : (a0 == 2) = false := by simpa using h2
  have e3 : (a0 == 3) = false := by simpa using h3
  have e4 : (a0 == 4) = false := by simpa using h4
  go_enter Tryd.func19, Tryd.ntmps19
  go_wp2
  go_ret
  exact ⟨_, rfl, Kd.R_nil _ _ _ _ _, Below.refl _ _⟩

end Go.Proofs.YtiolgglipcijpaaDoor.P
end

section
namespace Go.Proofs.YtiolgglipcijpaaDoor.P
open Go Go.RowKit Go.Proofs.YtiolgglipcijpaaDoorW.PrintWords Go.Proofs.YtiolgglipcijpaaDoor.PB Go.Proofs.YtiolgglipcijpaaDoor.LSpec Go.Proofs.YtiolgglipcijpaaDoor.RSpec Go.Proofs.YtiolgglipcijpaaDoor.RParse
open Go.Proofs.YtiolgglipcijpaaDoor.ROct (isTok isVis)

def glue (c : UInt8) : List (List UInt8) → List UInt8
  | [] => []
  | [p] => p
  | p :: q :: r => p ++ c :: glue c (q :: r)
theorem glue_split (c : UInt8) (l : List UInt8) : glue c (splitL c l) = l := by
  induction l with
  | nil => rfl
  | cons x r ih =>
    simp only [splitL]
    have hne := splitL_ne c r
    by_cases e : x = c
    · rw [if_pos e]
      cases hs : splitL c r with
      | nil => exact absurd hs hne
      | cons p ps => rw [hs] at ih; simp only [glue]; rw [ih, e]; rfl
    · rw [if_neg e]
      cases hs : splitL c r with
      | nil => exact absurd hs hne
      | cons p ps =>
        rw [hs] at ih
        cases ps with
        | nil => simp only [glue] at ih ⊢; rw [ih]
        | cons q qs => simp only [glue] at ih ⊢; rw [List.cons_append, ih]
theorem three_line {s : ByteArray} {m t v : List UInt8} (h : splitL 32 (toL s) = [m, t, v]) : toL s = m ++ 32 :: (t ++ 32 :: v) := by
  have := glue_split 32 (toL s)
  rw [h] at this
  exact this.symm
theorem last_byte {s : ByteArray} {p : List UInt8} {x : UInt8} (h : toL s = p ++ [x]) (n : Nat) (hn : n < s.size) (hp : n = p.length) : s[n] = x := by
  have e : s = ofL (p ++ [x]) := by rw [← h, ofL_toL]
  subst e
  subst hp
  show (p ++ [x])[p.length]'(by simp) = x
  simp

def reqline_Parse.f (s : ByteArray) : Option (ByteArray × ByteArray × Int × Option Int) := if s.size ≤ 100000 then some (parseL (toL s)) else none
theorem err_val (st at_ : Nat) (h : st < 1000) : errW (errC st at_) = .iface 104 (.agg #[.int .i64 st, .int .i64 at_]) := by
  unfold errC
  rw [errW_some]
  have e1 : ((at_ : Int) * 1000 + (st : Int)) % 1000 = st := by omega
  have e2 : ((at_ : Int) * 1000 + (st : Int)) / 1000 = at_ := by omega
  rw [e1, e2]
def outV (o : Out) : Value := .tuple #[.agg #[.string o.1, .string o.2.1, .int .i64 o.2.2.1], errW o.2.2.2]
theorem bad_val (st at_ : Nat) (h : st < 1000) : outV (bad st at_) = .tuple #[.agg #[.string ⟨#[]⟩, .string ⟨#[]⟩, .int .i64 0], .iface 104 (.agg #[.int .i64 st, .int .i64 at_])] := by
  unfold outV bad
  rw [err_val st at_ h]
theorem Parse_all (s : ByteArray) (hs : s.size ≤ 100000) (w : World) (hG : Glob w) :
    Calls Tryd.prog 12 #[.string s] w fun e w' => e = .returned (outV (parseL (toL s))) ∧ Below w.heap.size w w' := by
  unfold parseL
  split
  · rename_i m t v hsp
    have hl := three_line hsp
    have hlen := congrArg List.length hl
    rw [toL_length] at hlen
    simp only [List.length_append, List.length_cons] at hlen
    unfold lineL
    cases h0 : isTok (ofL m) with
    | false =>
      rw [if_pos rfl, bad_val _ _ (by omega)]
      exact Parse_r0 s hs m t v (by omega) (by omega) hsp h0 w hG
    | true =>
      rw [if_neg (by simp)]
      cases h1 : isVis (ofL t) with
      | false =>
        rw [if_pos rfl, bad_val _ _ (by omega)]
        exact Parse_r1 s hs m t v (by omega) (by omega) hsp h0 h1 w hG
      | true =>
        rw [if_neg (by simp)]
        cases h2 : verL v with
        | false =>
          rw [if_pos rfl, bad_val _ _ (by omega)]
          exact Parse_r2 s hs m t v (by omega) (by omega) hsp h0 h1 h2 w hG
        | true =>
          rw [if_neg (by simp)]
          cases h3 : supL v with
          | false =>
            rw [if_pos rfl, bad_val _ _ (by omega)]
            exact Parse_r3 s hs m t v (by omega) (by omega) hsp h0 h1 h2 h3 w hG
          | true =>
            rw [if_neg (by simp)]
            have hv : v = [72, 84, 84, 80, 47, 49, 46, 48] ∨ v = [72, 84, 84, 80, 47, 49, 46, 49] := by
              simpa [supL] using h3
            rcases hv with rfl | rfl
            · have hb := last_byte (p := m ++ 32 :: (t ++ 32 :: [72, 84, 84, 80, 47, 49, 46])) (x := 48) (by rw [hl]; simp) (s.size - 1) (by omega) (by simp at hlen ⊢; omega)
              exact Parse_ok0 s hs m t _ (by omega) (by omega) hsp h0 h1 h2 h3 (s.size - 1) (by omega) (by omega) (by rw [hb]; rfl) w hG
            · have hb := last_byte (p := m ++ 32 :: (t ++ 32 :: [72, 84, 84, 80, 47, 49, 46])) (x := 49) (by rw [hl]; simp) (s.size - 1) (by omega) (by simp at hlen ⊢; omega)
              exact Parse_ok1 s hs m t _ (by omega) (by omega) hsp h0 h1 h2 h3 (s.size - 1) (by omega) (by omega) (by rw [hb]; rfl) w hG
  · rename_i hno
    rw [bad_val _ _ (by omega)]
    refine Parse_other s hs (fun h => ?_) w hG
    match hq : splitL 32 (toL s), h with
    | [a, b, c], _ => exact hno a b c hq
theorem reqline_Parse.calls (a0 : ByteArray) (r1 r2 : ByteArray) (r3 : Int) (r4 : Option Int) (w : World) (h : reqline_Parse.f a0 = some (r1, r2, r3, r4)) (hG : Glob w) :
    Calls Tryd.prog 12 #[.string a0] w fun e w' => e = .returned (.tuple #[.agg #[.string r1, .string r2, .int .i64 r3], errW r4]) ∧ Below w.heap.size w w' := by
  unfold reqline_Parse.f at h
  split at h
  · rename_i hs
    have hh := Parse_all a0 hs w hG
    rw [Option.some.inj h] at hh
    exact hh
  · cases h

end Go.Proofs.YtiolgglipcijpaaDoor.P
end
