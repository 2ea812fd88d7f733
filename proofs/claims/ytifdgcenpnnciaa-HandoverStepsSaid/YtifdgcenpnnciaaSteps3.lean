/- HandoverSteps: Reset, Step, Distance and Left of the program return what the reference says, for all arguments. -/
import Derived.Test.YtifdgcenpnnciaaSteps2
import Derived.Test.YtifdgcenpnnciaaRStep
import Derived.Deep.RegionHeld3
namespace Go.Proofs.Ytifdgcenpnnciaa
open Go.RowKit

theorem rStep_any (m x a v : Int) (s : Bool) (w : World) :
    Calls Try.prog 10 #[.int .i64 m, .agg #[.int .i64 x, .bool s], .agg #[.int .i64 a, .int .i64 v]] w fun e w' => e = .returned (.tuple #[.agg #[.int .i64 (sA m x a v s), .bool (sS m)], .int .i64 (sE m)]) ∧ Below w.heap.size w w' := by
  by_cases h : m < 0 ∨ 1073741824 < m
  · have e1 : sA m x a v s = 0 := by simp [sA, h]
    have e2 : sS m = false := by simp [sS, h]
    have e3 : sE m = 3 := by simp [sE, h]
    rw [e1, e2, e3]
    exact rStep_bad m x a v s w h
  · have e2 : sS m = true := by simp [sS, h]
    have e3 : sE m = 0 := by simp [sE, h]
    rw [e2, e3]
    cases s
    · have e1 : sA m x a v false = a * 65536 % 4294967296 := by simp [sA, h]
      rw [e1]
      exact rStep_new m x a v w (by omega) (by omega)
    · have e1 : sA m x a v true = stp m x a v := by simp [sA, h]
      rw [e1]
      exact rStep_run m x a v w (by omega) (by omega)

set_option maxHeartbeats 2000000 in
theorem steps_any (m x a v : Int) (s : Bool) (w : World) :
    Calls Try.prog 3 #[.int .i64 m, .agg #[.int .i64 x, .bool s], .agg #[.int .i64 a, .int .i64 v]] w fun e w' => e = .returned (.bool true) ∧ Below w.heap.size w w' := by
  go_enter Try.func3, Try.ntmps3
  go_wp2_with (first
    | (go_at_call 7; refine (awake_any _).mono ?_; rintro e w1 ⟨rfl, hb1⟩; obtain ⟨p1, cp1, fp1, zp1⟩ := ((Blk.new w _ _).alloc _).next hb1; obtain ⟨q1, cq1, fq1, zq1⟩ := (Blk.new (w.alloc _) _ _).next hb1; simp at q1 cq1 fq1 zq1)
    | (go_at_call 8; refine (Step_any _ _ _ _ _ _).mono ?_; rintro e w2 ⟨rfl, hb2⟩; obtain ⟨p2, cp2, fp2, zp2⟩ := p1.next hb2; obtain ⟨q2, cq2, fq2, zq2⟩ := q1.next hb2)
    | (go_at_call 9; refine (Left_any _ _ _ _ _).mono ?_; rintro e w3 ⟨rfl, hb3⟩; obtain ⟨p3, cp3, fp3, zp3⟩ := (p2.alloc _).next hb3; obtain ⟨q3, cq3, fq3, zq3⟩ := (q2.alloc _).next hb3; obtain ⟨n3, cn3, fn3, zn3⟩ := (Blk.new w2 _ _).next hb3)
    | (go_at_call 10; refine (rStep_any _ _ _ _ _ _).mono ?_; rintro e w4 ⟨rfl, hb4⟩; obtain ⟨p4, cp4, fp4, zp4⟩ := p3.next hb4; obtain ⟨q4, cq4, fq4, zq4⟩ := q3.next hb4; obtain ⟨n4, cn4, fn4, zn4⟩ := n3.next hb4)
    | (go_at_call 11; refine (rLeft_any _ _ _ _ _).mono ?_; rintro e w5 ⟨rfl, hb5⟩; obtain ⟨p5, cp5, fp5, zp5⟩ := (p4.alloc _).next hb5; obtain ⟨q5, cq5, fq5, zq5⟩ := (q4.alloc _).next hb5; obtain ⟨n5, cn5, fn5, zn5⟩ := (n4.alloc _).next hb5; obtain ⟨m5, cm5, fm5, zm5⟩ := (Blk.new w4 _ _).next hb5))
  clear cp1 fp1 zp1 cq1 fq1 zq1 cp2 fp2 zp2 cq2 fq2 zq2 cp3 fp3 zp3 cq3 fq3 zq3 cn3 fn3 zn3 cp4 fp4 zp4 cq4 fq4 zq4 cn4 fn4 zn4
  go_region_held3 (fun w' => (∀ i, w'.cell? ⟨w.heap.size, i, none⟩ = (#[.int .i64 x, .bool s] : Array Value)[i]?) ∧ (∀ i, w'.cell? ⟨w.heap.size + 1, i, none⟩ = (#[.int .i64 a, .int .i64 v] : Array Value)[i]?) ∧ (∀ i, w'.cell? ⟨w2.heap.size, i, none⟩ = (#[.int .i64 (sA m x a v s), .bool (sS m)] : Array Value)[i]?) ∧ (∀ i, w'.cell? ⟨w4.heap.size, i, none⟩ = (#[.int .i64 (sA m x a v s), .bool (sS m)] : Array Value)[i]?))
    (first | exact ⟨p5.cell, q5.cell, n5.cell, m5.cell⟩ | exact ⟨p6.cell, q6.cell, n6.cell, m6.cell⟩ | exact ⟨p7.cell, q7.cell, n7.cell, m7.cell⟩ | exact ⟨p8.cell, q8.cell, n8.cell, m8.cell⟩ | exact ⟨p9.cell, q9.cell, n9.cell, m9.cell⟩)
    (first
      | (go_at_call 12; refine (num_any _ _).mono ?_; rintro e w' ⟨rfl, rfl⟩)
      | (go_at_call 13; refine (Distance_any _ _ _ _).mono ?_; rintro e w6 ⟨rfl, hb6⟩; have p6 := (p5.next hb6).1; have q6 := (q5.next hb6).1; have n6 := (n5.next hb6).1; have m6 := (m5.next hb6).1)
      | (go_at_call 14; refine (rDistance_any _ _ _ _).mono ?_; rintro e w7 ⟨rfl, hb7⟩; have p7 := (p6.next hb7).1; have q7 := (q6.next hb7).1; have n7 := (n6.next hb7).1; have m7 := (m6.next hb7).1)
      | (go_at_call 15; refine (Reset_any _ _).mono ?_; rintro e w8 ⟨rfl, hb8⟩; have p8 := (p7.next hb8).1; have q8 := (q7.next hb8).1; have n8 := (n7.next hb8).1; have m8 := (m7.next hb8).1)
      | (go_at_call 16; refine (rReset_any _ _).mono ?_; rintro e w9 ⟨rfl, hb9⟩; have p9 := (p8.next hb9).1; have q9 := (q8.next hb9).1; have n9 := (n8.next hb9).1; have m9 := (m8.next hb9).1))
  go_wp2_with fail
  go_ret
  have B1 := below_call (below_box (below_box (Below.refl w.heap.size w) _) _) hb1
  have B3 := below_call (below_box (below_call B1 hb2) _) hb3
  have B5 := below_call (below_box (below_call B3 hb4) _) hb5
  exact ⟨rfl, below_call (below_call (below_call (below_call B5.drew hb6) hb7) hb8) hb9⟩
end Go.Proofs.Ytifdgcenpnnciaa
