/- The reference's Mul; the walk of WordMuls. -/
import Derived.Test.YthldpmfobhemkaaLaw9
import Derived.Test.YthldpmfobhemkaaLaw11
import Derived.Test.YthldpmfobhemkaaLaw12
namespace Go.Proofs.Ythldpmfobhemkaa
open Go.RowKit

theorem rDot1_yes (b s x y : Int) (n : Nat) (m : Int) (ba bb : Nat) (h : okW b s x y) (hn : n ≤ 62) (hm : 0 ≤ m) (hm2 : m ≤ 3) (w : World) (hba : ba < w.heap.size) (hbb : bb < w.heap.size) (hca : w.cell? ⟨ba, 0, none⟩ = some (.int .i64 x)) (hcb : w.cell? ⟨bb, 0, none⟩ = some (.int .i64 y)) : Calls Try.prog 47 #[.agg #[.int .i64 b, .int .i64 s], .slice (some ⟨ba, 0, none⟩) 1 1, .slice (some ⟨bb, 0, none⟩) 1 1, .int .i64 n, .int .i64 m] w fun e w' => e = .returned (.tuple #[.int .i64 (satV b (rnd (x * y) n m)), .bool (satB b (rnd (x * y) n m)), .int .i64 0]) ∧ Below w.heap.size w w' := by
  by_cases h1 : n ≤ 31
  · exact rDot1_low b s x y n m ba bb h h1 hm hm2 w hba hbb hca hcb
  · exact rDot1_high b s x y n m ba bb h (by omega) hn hm hm2 w hba hbb hca hcb
theorem rDot1_no (b s x y : Int) (n m : Int) (ba bb : Nat) (h : ¬ (okW b s x y ∧ (0 ≤ n ∧ n ≤ 62) ∧ 0 ≤ m ∧ m ≤ 3)) (w : World) (hba : ba < w.heap.size) (hbb : bb < w.heap.size) (hca : w.cell? ⟨ba, 0, none⟩ = some (.int .i64 x)) (hcb : w.cell? ⟨bb, 0, none⟩ = some (.int .i64 y)) : Calls Try.prog 47 #[.agg #[.int .i64 b, .int .i64 s], .slice (some ⟨ba, 0, none⟩) 1 1, .slice (some ⟨bb, 0, none⟩) 1 1, .int .i64 n, .int .i64 m] w fun e w' => e = .returned (.tuple #[.int .i64 0, .bool false, .int .i64 3]) ∧ Below w.heap.size w w' := by
  by_cases h0 : okF b s
  · cases h1 : isW b x
    · exact rDot1_one b s x y n m ba bb h0 h1 w hba hbb hca hcb
    · cases h2 : isW b y
      · exact rDot1_two b s x y n m ba bb h0 h1 h2 w hba hbb hca hcb
      · exact rDot1_bad b s x y n m ba bb ⟨h0, h1, h2⟩ (fun hh => h ⟨⟨h0, h1, h2⟩, hh⟩) w hba hbb hca hcb
  · exact rDot1_fmt b s n m ba bb h0 w

theorem cell_new0 (w : World) (k : Nat) (hk : w.heap.size = k) (cs : Array Value) (t : TypeId) : (w.alloc (.cells cs t)).cell? ⟨k, 0, none⟩ = cs[0]? := by
  subst hk
  exact (Blk.new w t cs).cell 0
theorem cell_new1 (w : World) (k : Nat) (hk : w.heap.size = k) (cs : Array Value) (t : TypeId) (o : Obj) : ((w.alloc (.cells cs t)).alloc o).cell? ⟨k, 0, none⟩ = cs[0]? := by
  subst hk
  exact ((Blk.new w t cs).alloc o).cell 0
set_option maxHeartbeats 1000000 in
theorem rMul_of (b s x y n m : Int) (a : Int) (c : Bool) (g : Int) (h : ∀ (ba bb : Nat) (w : World), ba < w.heap.size → bb < w.heap.size → w.cell? ⟨ba, 0, none⟩ = some (.int .i64 x) → w.cell? ⟨bb, 0, none⟩ = some (.int .i64 y) → Calls Try.prog 47 #[.agg #[.int .i64 b, .int .i64 s], .slice (some ⟨ba, 0, none⟩) 1 1, .slice (some ⟨bb, 0, none⟩) 1 1, .int .i64 n, .int .i64 m] w fun e w' => e = .returned (.tuple #[.int .i64 a, .bool c, .int .i64 g]) ∧ Below w.heap.size w w') (w : World) : Calls Try.prog 20 #[.agg #[.int .i64 b, .int .i64 s], .int .i64 x, .int .i64 y, .int .i64 n, .int .i64 m] w fun e w' => e = .returned (.tuple #[.int .i64 a, .bool c, .int .i64 g]) ∧ Below w.heap.size w w' := by
  have HD := Lib.hid h
  clear h
  have B0 := below_box (below_box (below_box (Below.refl w.heap.size w) (.cells #[.int .i64 b, .int .i64 s] 23)) (.cells #[.int .i64 x] 3)) (.cells #[.int .i64 y] 3)
  go_enter Try.func20, Try.ntmps20
  go_wp2_with fail
  (with_reducible refine (HD.out _ _ _ ?_ ?_ ?_ ?_).mono ?_)
  · simp
  · simp
  · exact (cell_new1 _ _ (by simp) _ _ _).trans rfl
  · exact (cell_new0 _ _ (by simp) _ _).trans rfl
  · rintro e w1 ⟨rfl, hb1⟩
    have B1 := below_call B0 hb1
    go_wp2_with fail
    refine bodyPost_ret (v := .tuple #[.int .i64 a, .bool c, .int .i64 g]) ?_ rfl ⟨rfl, B1⟩
    simp [results, Try.results20, go_sem]
theorem rMul_yes (b s x y : Int) (n : Nat) (m : Int) (h : okW b s x y) (hn : n ≤ 62) (hm : 0 ≤ m) (hm2 : m ≤ 3) (w : World) : Calls Try.prog 20 #[.agg #[.int .i64 b, .int .i64 s], .int .i64 x, .int .i64 y, .int .i64 n, .int .i64 m] w fun e w' => e = .returned (.tuple #[.int .i64 (satV b (rnd (x * y) n m)), .bool (satB b (rnd (x * y) n m)), .int .i64 0]) ∧ Below w.heap.size w w' :=
  rMul_of b s x y n m _ _ _ (fun ba bb w h1 h2 h3 h4 => rDot1_yes b s x y n m ba bb h hn hm hm2 w h1 h2 h3 h4) w
theorem rMul_no (b s x y n m : Int) (h : ¬ (okW b s x y ∧ (0 ≤ n ∧ n ≤ 62) ∧ 0 ≤ m ∧ m ≤ 3)) (w : World) : Calls Try.prog 20 #[.agg #[.int .i64 b, .int .i64 s], .int .i64 x, .int .i64 y, .int .i64 n, .int .i64 m] w fun e w' => e = .returned (.tuple #[.int .i64 0, .bool false, .int .i64 3]) ∧ Below w.heap.size w w' :=
  rMul_of b s x y n m _ _ _ (fun ba bb w h1 h2 h3 h4 => rDot1_no b s x y n m ba bb h w h1 h2 h3 h4) w

set_option maxHeartbeats 2000000 in
theorem muls_any (b s x y n m : Int) (w : World) : Calls Try.prog 5 #[.agg #[.int .i64 b, .int .i64 s], .agg #[.int .i64 x, .int .i64 y], .agg #[.int .i64 n, .int .i64 m]] w fun e w' => e = .returned (.bool true) ∧ Below w.heap.size w w' := by
  by_cases h : okW b s x y ∧ (0 ≤ n ∧ n ≤ 62) ∧ 0 ≤ m ∧ m ≤ 3
  · obtain ⟨k, rfl⟩ : ∃ k : Nat, n = k := ⟨n.toNat, by omega⟩
    have HD := Lib.hid (Mul_yes b s x y k m h.1 (by omega) h.2.2.1 h.2.2.2)
    have HR := Lib.hid (rMul_yes b s x y k m h.1 (by omega) h.2.2.1 h.2.2.2)
    generalize satV b (rnd (x * y) k m) = v1 at *
    generalize satB b (rnd (x * y) k m) = c1 at *
    clear h
    go_enter Try.func5, Try.ntmps5
    go_wp2_with fail
    (with_reducible refine (awake_any _).mono ?_)
    rintro e w1 ⟨rfl, hb1⟩
    obtain ⟨bF1, cF1, fF1, zF1⟩ := (((Blk.new w 23 #[.int .i64 b, .int .i64 s]).alloc _).alloc _).next hb1
    obtain ⟨bA1, cA1, fA1, zA1⟩ := ((Blk.new (w.alloc _) 43 #[.int .i64 x, .int .i64 y]).alloc _).next hb1
    obtain ⟨bW1, cW1, fW1, zW1⟩ := (Blk.new ((w.alloc _).alloc _) 28 #[.int .i64 (k : Int), .int .i64 m]).next hb1
    simp at bF1 cF1 fF1 zF1 bA1 cA1 fA1 zA1 bW1 cW1 fW1 zW1
    have B1 := below_call (below_box (below_box (below_box (Below.refl w.heap.size w) _) _) _) hb1
    go_wp2_with fail
    (with_reducible refine (HD.out _).mono ?_)
    rintro e w2 ⟨rfl, hb2⟩
    obtain ⟨bF2, cF2, fF2, zF2⟩ := bF1.next hb2
    obtain ⟨bA2, cA2, fA2, zA2⟩ := bA1.next hb2
    obtain ⟨bW2, cW2, fW2, zW2⟩ := bW1.next hb2
    have B2 := below_call B1 hb2
    clear cF1 fF1 zF1 cA1 fA1 zA1 cW1 fW1 zW1
    go_wp2_with fail
    (with_reducible refine (HR.out _).mono ?_)
    rintro e w3 ⟨rfl, hb3⟩
    obtain ⟨bF3, cF3, fF3, zF3⟩ := bF2.next hb3
    obtain ⟨bA3, cA3, fA3, zA3⟩ := bA2.next hb3
    obtain ⟨bW3, cW3, fW3, zW3⟩ := bW2.next hb3
    have B3 := below_call B2 hb3
    clear cF2 fF2 zF2 cA2 fA2 zA2 cW2 fW2 zW2
    go_wp2_with fail
    (with_reducible refine (num_nil _).mono ?_)
    rintro e w' ⟨rfl, rfl⟩
    go_wp2_with fail
    go_ret
    exact ⟨ret_bool (by simp), B3⟩
  · have HD := Lib.hid (Mul_no b s x y n m h)
    have HR := Lib.hid (rMul_no b s x y n m h)
    clear h
    go_enter Try.func5, Try.ntmps5
    go_wp2_with fail
    (with_reducible refine (awake_any _).mono ?_)
    rintro e w1 ⟨rfl, hb1⟩
    obtain ⟨bF1, cF1, fF1, zF1⟩ := (((Blk.new w 23 #[.int .i64 b, .int .i64 s]).alloc _).alloc _).next hb1
    obtain ⟨bA1, cA1, fA1, zA1⟩ := ((Blk.new (w.alloc _) 43 #[.int .i64 x, .int .i64 y]).alloc _).next hb1
    obtain ⟨bW1, cW1, fW1, zW1⟩ := (Blk.new ((w.alloc _).alloc _) 28 #[.int .i64 n, .int .i64 m]).next hb1
    simp at bF1 cF1 fF1 zF1 bA1 cA1 fA1 zA1 bW1 cW1 fW1 zW1
    have B1 := below_call (below_box (below_box (below_box (Below.refl w.heap.size w) _) _) _) hb1
    go_wp2_with fail
    (with_reducible refine (HD.out _).mono ?_)
    rintro e w2 ⟨rfl, hb2⟩
    obtain ⟨bF2, cF2, fF2, zF2⟩ := bF1.next hb2
    obtain ⟨bA2, cA2, fA2, zA2⟩ := bA1.next hb2
    obtain ⟨bW2, cW2, fW2, zW2⟩ := bW1.next hb2
    have B2 := below_call B1 hb2
    clear cF1 fF1 zF1 cA1 fA1 zA1 cW1 fW1 zW1
    go_wp2_with fail
    (with_reducible refine (HR.out _).mono ?_)
    rintro e w3 ⟨rfl, hb3⟩
    obtain ⟨bF3, cF3, fF3, zF3⟩ := bF2.next hb3
    obtain ⟨bA3, cA3, fA3, zA3⟩ := bA2.next hb3
    obtain ⟨bW3, cW3, fW3, zW3⟩ := bW2.next hb3
    have B3 := below_call B2 hb3
    clear cF2 fF2 zF2 cA2 fA2 zA2 cW2 fW2 zW2
    go_wp2_with fail
    (with_reducible refine (num_three _).mono ?_)
    rintro e w' ⟨rfl, rfl⟩
    go_wp2_with fail
    go_ret
    exact ⟨ret_bool (by simp), B3⟩

end Go.Proofs.Ythldpmfobhemkaa
