/- The walks of layer 41's larger functions, continued: the reference's step, Left, and the law's own helpers. -/
import Derived.Test.YtifdgcenpnnciaaSteps
import Derived.Lib.Hide
namespace Go.Proofs.Ytifdgcenpnnciaa
open Go.RowKit

/-- An error of the program by its number; 0 is nil. -/
def errV (c : Int) : Value := if c = 0 then .nilIface else .iface 49 (.int .i64 c)

theorem num_any (c : Int) (w : World) :
    Calls Try.prog 12 #[errV c] w fun e w' => e = .returned (.int .i64 c) ∧ w = w' := by
  by_cases h : c = 0
  · subst h
    exact num_nil w
  · unfold errV
    rw [if_neg h]
    exact num_err c w

set_option maxHeartbeats 400000 in
theorem rReset_any (a : Int) (w : World) :
    Calls Try.prog 16 #[.int .i64 a] w fun e w' => e = .returned (.agg #[.int .i64 (a * 65536 % 4294967296), .bool true]) ∧ Below w.heap.size w w' := by
  go_enter Try.func16, Try.ntmps16
  go_wp2_with (go_at_call 24; refine (source_any _ _).mono ?_; rintro e w' ⟨rfl, rfl⟩)
  exact bodyPost_ret (v := .agg #[.int .i64 (a * 65536 % 4294967296), .bool true]) (by simp [results, Try.results16, go_sem]) rfl ⟨rfl, (Below.refl _ _).alloc (Nat.le_refl _) _⟩

set_option maxHeartbeats 400000 in
theorem abs_any (x : Int) (h : -9223372036854775808 < x) (h2 : x ≤ 9223372036854775807) (w : World) :
    Calls Try.prog 22 #[.int .i64 x] w fun e w' => e = .returned (.int .i64 (max x (-x))) ∧ w = w' := by
  have hn : (x == -9223372036854775808) = false := by simp; omega
  go_enter Try.func22, Try.ntmps22
  go_wp2
  go_ret
  exact ⟨rfl, rfl⟩

set_option maxHeartbeats 400000 in
theorem lnear_any (n : Int) (w : World) (h : -4611686018427387904 ≤ n) (h2 : n ≤ 4611686018427387904) :
    Calls Try.prog 18 #[.int .i64 n] w fun e w' => e = .returned (.int .i64 ((n + 2147483648) % 4294967296 - 2147483648)) ∧ w = w' := by
  have h1 := tspec n 4294967296 (by decide)
  have h3 := tspec (n.tmod 4294967296 + 4294967296 + 2147483648) 4294967296 (by decide)
  go_enter Try.func18, Try.ntmps18
  go_wp2
  go_ret
  exact ⟨ret_int (by omega), rfl⟩


set_option maxHeartbeats 400000 in
theorem rStep_bad (m x a v : Int) (s : Bool) (w : World) (h : m < 0 ∨ 1073741824 < m) :
    Calls Try.prog 10 #[.int .i64 m, .agg #[.int .i64 x, .bool s], .agg #[.int .i64 a, .int .i64 v]] w fun e w' => e = .returned (.tuple #[.agg #[.int .i64 0, .bool false], .int .i64 3]) ∧ Below w.heap.size w w' := by
  go_enter Try.func10, Try.ntmps10
  go_wp2_with fail
  all_goals exact bodyPost_ret (v := .tuple #[.agg #[.int .i64 0, .bool false], .int .i64 3]) (by simp [results, Try.results10, go_sem]) rfl ⟨rfl, (((Below.refl _ _).alloc (Nat.le_refl _) _).alloc (by simp) _).alloc (by simp; omega) _⟩

set_option maxHeartbeats 400000 in
theorem rStep_new (m x a v : Int) (w : World) (h : 0 ≤ m) (h2 : m ≤ 1073741824) :
    Calls Try.prog 10 #[.int .i64 m, .agg #[.int .i64 x, .bool false], .agg #[.int .i64 a, .int .i64 v]] w fun e w' => e = .returned (.tuple #[.agg #[.int .i64 (a * 65536 % 4294967296), .bool true], .int .i64 0]) ∧ Below w.heap.size w w' := by
  go_enter Try.func10, Try.ntmps10
  go_wp2_with (go_at_call 16; refine (rReset_any _ _).mono ?_; rintro e w1 ⟨rfl, hb⟩; obtain ⟨hc, hf, hz⟩ := far hb; simp at hz)
  refine bodyPost_ret (v := .tuple #[.agg #[.int .i64 (a * 65536 % 4294967296), .bool true], .int .i64 0]) ?_ rfl ⟨rfl, ?_⟩
  · simp [results, Try.results10, go_sem, hc]
  · repeat' (first | exact Below.refl _ _ | refine Below.setCell ?_ ?_ _ | refine Below.alloc ?_ ?_ _ | refine below_drewN ?_ _ | refine Below.trans ?_ (hb.mono ?_) | (simp; done) | (simp; omega))

/-- Left's number and its error: the same for the program and the reference. -/
def lN (m d : Int) : Int := if m < 0 ∨ 1073741824 < m then 0 else if max d (-d) = 0 then 0 else if m = 0 then 0 else (max d (-d) + m - 1) / m
def lE (m d : Int) : Int := if m < 0 ∨ 1073741824 < m then 3 else if max d (-d) = 0 then 0 else if m = 0 then 23 else 0
theorem lN_bad {m d : Int} (h : m < 0 ∨ 1073741824 < m) : lN m d = 0 ∧ lE m d = 3 := by simp [lN, lE, h]
theorem lN_here {m d : Int} (h : 0 ≤ m) (h2 : m ≤ 1073741824) (h3 : max d (-d) = 0) : lN m d = 0 ∧ lE m d = 0 := by
  have h4 : ¬ (m < 0 ∨ 1073741824 < m) := by omega
  simp [lN, lE, h4, h3]
theorem lN_stuck {d : Int} (h3 : ¬ max d (-d) = 0) : lN 0 d = 0 ∧ lE 0 d = 23 := by
  simp [lN, lE, h3]
theorem lN_far {m d : Int} (h : 0 < m) (h2 : m ≤ 1073741824) (h3 : ¬ max d (-d) = 0) : lN m d = (max d (-d) + m - 1) / m ∧ lE m d = 0 := by
  have h4 : ¬ (m < 0 ∨ 1073741824 < m) := by omega
  have h5 : ¬ m = 0 := by omega
  simp only [lN, lE, h4, h3, h5, if_false, and_self]

set_option maxHeartbeats 1000000 in
theorem Left_any (m x a : Int) (s : Bool) (w : World) :
    Calls Try.prog 9 #[.int .i64 m, .agg #[.int .i64 x, .bool s], .int .i64 a] w fun e w' => e = .returned (.tuple #[.int .i64 (lN m (dst x a)), errV (lE m (dst x a))]) ∧ Below w.heap.size w w' := by
  have hd := dst_le x a
  generalize hD : dst x a = d at *
  have HD := Lib.hid hD
  clear hD
  by_cases h : m < 0 ∨ 1073741824 < m
  · rw [(lN_bad h).1, (lN_bad h).2]
    go_enter Try.func9, Try.ntmps9
    go_wp2_with fail
    all_goals
      go_ret2
      exact ⟨rfl, (Below.refl _ _).alloc (Nat.le_refl _) _⟩
  · have h1 : 0 ≤ m := by omega
    have h2 : m ≤ 1073741824 := by omega
    clear h
    by_cases h3 : max d (-d) = 0
    · rw [(lN_here h1 h2 h3).1, (lN_here h1 h2 h3).2]
      have hb3 : (max d (-d) == 0) = true := by simp [h3]
      clear h3
      go_enter Try.func9, Try.ntmps9
      go_wp2_with (go_at_call 20; refine (dist_any _ _ _).mono ?_; rw [HD.out]; rintro e w' ⟨rfl, rfl⟩)
      go_ret2
      exact ⟨rfl, (Below.refl _ _).alloc (Nat.le_refl _) _⟩
    · have hb3 : (max d (-d) == 0) = false := by simp [h3]
      by_cases h4 : m = 0
      · subst h4
        rw [(lN_stuck h3).1, (lN_stuck h3).2]
        clear h3
        go_enter Try.func9, Try.ntmps9
        go_wp2_with (go_at_call 20; refine (dist_any _ _ _).mono ?_; rw [HD.out]; rintro e w' ⟨rfl, rfl⟩)
        go_ret2
        exact ⟨rfl, (Below.refl _ _).alloc (Nat.le_refl _) _⟩
      · have h5 : 0 < m := by omega
        rw [(lN_far h5 h2 h3).1, (lN_far h5 h2 h3).2]
        have hb4 : (m == 0) = false := by simp [h4]
        clear h3 h4
        have hq : IntKind.i64.wrap ((max d (-d) + m - 1) / m) = (max d (-d) + m - 1) / m := IntWalk.i64_in _ (by
          have q1 := Int.ediv_nonneg (a := max d (-d) + m - 1) (b := m) (by omega) (by omega)
          have q2 := Int.ediv_le_self m (a := max d (-d) + m - 1) (by omega)
          omega)
        go_enter Try.func9, Try.ntmps9
        go_wp2_with (go_at_call 20; refine (dist_any _ _ _).mono ?_; rw [HD.out]; rintro e w' ⟨rfl, rfl⟩)
        go_ret2
        exact ⟨rfl, (Below.refl _ _).alloc (Nat.le_refl _) _⟩

set_option maxHeartbeats 1000000 in
theorem rLeft_any (m x a : Int) (s : Bool) (w : World) :
    Calls Try.prog 11 #[.int .i64 m, .agg #[.int .i64 x, .bool s], .int .i64 a] w fun e w' => e = .returned (.tuple #[.int .i64 (lN m (dst x a)), .int .i64 (lE m (dst x a))]) ∧ Below w.heap.size w w' := by
  have hd := dst_le x a
  generalize hD : dst x a = d at *
  have HD := Lib.hid hD
  clear hD
  by_cases h : m < 0 ∨ 1073741824 < m
  · rw [(lN_bad h).1, (lN_bad h).2]
    go_enter Try.func11, Try.ntmps11
    go_wp2_with fail
    all_goals
      go_ret2
      exact ⟨rfl, (Below.refl _ _).alloc (Nat.le_refl _) _⟩
  · have h1 : 0 ≤ m := by omega
    have h2 : m ≤ 1073741824 := by omega
    clear h
    by_cases h3 : max d (-d) = 0
    · rw [(lN_here h1 h2 h3).1, (lN_here h1 h2 h3).2]
      have hb3 : (max d (-d) == 0) = true := by simp [h3]
      clear h3
      go_enter Try.func11, Try.ntmps11
      go_wp2_with (first | (go_at_call 14; refine (rDistance_any _ _ _ _).mono ?_; rw [HD.out]; rintro e w1 ⟨rfl, hb⟩; obtain ⟨hc, hf, hz⟩ := far hb; simp at hz) | (go_at_call 22; refine (abs_any _ (by omega) (by omega) _).mono ?_; rintro e w' ⟨rfl, rfl⟩))
      go_ret2
      exact ⟨rfl, ((Below.refl _ _).alloc (Nat.le_refl _) _).trans (hb.mono (by simp))⟩
    · have hb3 : (max d (-d) == 0) = false := by simp [h3]
      by_cases h4 : m = 0
      · subst h4
        rw [(lN_stuck h3).1, (lN_stuck h3).2]
        clear h3
        go_enter Try.func11, Try.ntmps11
        go_wp2_with (first | (go_at_call 14; refine (rDistance_any _ _ _ _).mono ?_; rw [HD.out]; rintro e w1 ⟨rfl, hb⟩; obtain ⟨hc, hf, hz⟩ := far hb; simp at hz) | (go_at_call 22; refine (abs_any _ (by omega) (by omega) _).mono ?_; rintro e w' ⟨rfl, rfl⟩))
        go_ret2
        exact ⟨rfl, ((Below.refl _ _).alloc (Nat.le_refl _) _).trans (hb.mono (by simp))⟩
      · have h5 : 0 < m := by omega
        rw [(lN_far h5 h2 h3).1, (lN_far h5 h2 h3).2]
        have hb4 : (m == 0) = false := by simp [h4]
        clear h3 h4
        have hq : IntKind.i64.wrap ((max d (-d) + m - 1) / m) = (max d (-d) + m - 1) / m := IntWalk.i64_in _ (by
          have q1 := Int.ediv_nonneg (a := max d (-d) + m - 1) (b := m) (by omega) (by omega)
          have q2 := Int.ediv_le_self m (a := max d (-d) + m - 1) (by omega)
          omega)
        go_enter Try.func11, Try.ntmps11
        go_wp2_with (first | (go_at_call 14; refine (rDistance_any _ _ _ _).mono ?_; rw [HD.out]; rintro e w1 ⟨rfl, hb⟩; obtain ⟨hc, hf, hz⟩ := far hb; simp at hz) | (go_at_call 22; refine (abs_any _ (by omega) (by omega) _).mono ?_; rintro e w' ⟨rfl, rfl⟩))
        go_ret2
        exact ⟨rfl, ((Below.refl _ _).alloc (Nat.le_refl _) _).trans (hb.mono (by simp))⟩

/-- The state and the error after a tick: the same for the program and the reference. -/
def sA (m x a v : Int) (s : Bool) : Int := if m < 0 ∨ 1073741824 < m then 0 else if s then stp m x a v else a * 65536 % 4294967296
def sS (m : Int) : Bool := if m < 0 ∨ 1073741824 < m then false else true
def sE (m : Int) : Int := if m < 0 ∨ 1073741824 < m then 3 else 0

theorem Step_any (m x a v : Int) (s : Bool) (w : World) :
    Calls Try.prog 8 #[.int .i64 m, .agg #[.int .i64 x, .bool s], .agg #[.int .i64 a, .int .i64 v]] w fun e w' => e = .returned (.tuple #[.agg #[.int .i64 (sA m x a v s), .bool (sS m)], errV (sE m)]) ∧ Below w.heap.size w w' := by
  by_cases h : m < 0 ∨ 1073741824 < m
  · have e1 : sA m x a v s = 0 := by simp [sA, h]
    have e2 : sS m = false := by simp [sS, h]
    have e3 : sE m = 3 := by simp [sE, h]
    rw [e1, e2, e3]
    exact Step_bad m x a v s w h
  · have e2 : sS m = true := by simp [sS, h]
    have e3 : sE m = 0 := by simp [sE, h]
    rw [e2, e3]
    cases s
    · have e1 : sA m x a v false = a * 65536 % 4294967296 := by simp [sA, h]
      rw [e1]
      exact Step_new m x a v w (by omega) (by omega)
    · have e1 : sA m x a v true = stp m x a v := by simp [sA, h]
      rw [e1]
      exact Step_run m x a v w (by omega) (by omega)

/-- Block b is just these cells, none frozen. -/
def Blk (w : World) (b : Nat) (t : TypeId) (cs : Array Value) : Prop := w.heap[b]? = some (.cells cs t (0, 0))
section
variable {w W w1 : World} {b : Nat} {t : TypeId} {cs : Array Value}
theorem Blk.lt (h : Blk w b t cs) : b < w.heap.size := by
  rcases Nat.lt_or_ge b w.heap.size with hl | hl
  · exact hl
  · unfold Blk at h; rw [Array.getElem?_eq_none hl] at h; cases h
theorem Blk.cell (h : Blk w b t cs) (i : Nat) : w.cell? ⟨b, i, none⟩ = cs[i]? := by
  unfold Blk at h
  simp [World.cell?, h]
theorem Blk.frozen (h : Blk w b t cs) (i : Nat) : w.frozen? ⟨b, i, none⟩ = false := by
  unfold Blk at h
  simp [World.frozen?, h]
theorem Blk.new (w : World) (t : TypeId) (cs : Array Value) : Blk (w.alloc (.cells cs t)) w.heap.size t cs := by
  unfold Blk World.alloc; simp
theorem Blk.alloc (h : Blk w b t cs) (o : Obj) : Blk (w.alloc o) b t cs := (Below.heap_alloc w o b h.lt).trans h
theorem Blk.drewN (h : Blk w b t cs) (n : Nat) : Blk (w.drewN n) b t cs := h
theorem Blk.far (h : Blk w b t cs) {p : Addr} (hp : b ≠ p.block) (u : Value) : Blk (w.setCell p u) b t cs := (Below.heap_setCell w p u b hp).trans h
theorem Blk.put (h : Blk w b t cs) (i : Nat) (u : Value) : Blk (w.setCell ⟨b, i, none⟩ u) b t (cs.setIfInBounds i u) := by
  unfold Blk at h ⊢
  simp [World.setCell, Array.getElem?_modify, h]
theorem Blk.next {w0 : World} (h : Blk w0 b t cs) (hb : Below W.heap.size W w1) (hw : W.heap = w0.heap := by rfl) : Blk w1 b t cs ∧ (∀ i, w1.cell? ⟨b, i, none⟩ = cs[i]?) ∧ (∀ i, w1.frozen? ⟨b, i, none⟩ = false) ∧ b < w1.heap.size := by
  have h0 : Blk W b t cs := by unfold Blk; rw [hw]; exact h
  have h1 : Blk w1 b t cs := (hb.block b h0.lt).trans h0
  exact ⟨h1, h1.cell, h1.frozen, h1.lt⟩
theorem below_box (h : Below w.heap.size w W) (o : Obj) : Below w.heap.size w (W.alloc o) := h.alloc h.size o
theorem below_call (h : Below w.heap.size w W) (hb : Below W.heap.size W w1) : Below w.heap.size w w1 := h.trans (hb.mono h.size)
end

set_option maxHeartbeats 1000000 in
theorem awake_any (w : World) : Calls Try.prog 7 #[] w fun e w' => e = .returned (.bool true) ∧ Below w.heap.size w w' := by
  have e1 : lN 65536 (dst 0 10) = 10 := by decide
  have e2 : lE 65536 (dst 0 10) = 0 := by decide
  have e3 : sA 65536 0 10 0 true = 65536 := by decide
  have e4 : sS 65536 = true := by decide
  have e5 : sE 65536 = 0 := by decide
  have e6 : dst 65536 65535 = -131072 := by decide
  have n0 : errV 0 = .nilIface := rfl
  have c9 := fun W => Left_any 65536 0 10 true W
  have c8 := fun W => Step_any 65536 0 10 0 true W
  have c13 := fun W => Distance_any 65536 65535 true W
  rw [e1, e2, n0] at c9
  rw [e3, e4, e5, n0] at c8
  rw [e6] at c13
  clear e1 e2 e3 e4 e5 e6 n0
  have C8 := Lib.hid c8
  have C9 := Lib.hid c9
  have C13 := Lib.hid c13
  clear c8 c9 c13
  go_enter Try.func7, Try.ntmps7
  go_wp2_with (first
    | (go_at_call 15; refine (Reset_any _ _).mono ?_; rintro e w1 ⟨rfl, hb1⟩)
    | (go_at_call 9; refine (C9.out _).mono ?_; rintro e w2 ⟨rfl, hb2⟩; obtain ⟨q2, c2, f2, z2⟩ := (Blk.new _ _ _).next hb2)
    | (go_at_call 8; refine (C8.out _).mono ?_; rintro e w3 ⟨rfl, hb3⟩; obtain ⟨q3, c3, f3, z3⟩ := q2.next hb3)
    | (go_at_call 13; refine (C13.out _).mono ?_; rintro e w4 ⟨rfl, hb4⟩))
  go_ret
  have s1 := hb1.size
  refine ⟨rfl, ?_⟩
  repeat' (first | exact Below.refl _ _ | assumption | refine below_call ?_ hb4 | refine below_call ?_ hb3 | refine below_call ?_ hb2 | refine Below.setCell ?_ ?_ _ | refine Below.alloc ?_ ?_ _ | (simp; omega))
end Go.Proofs.Ytifdgcenpnnciaa
