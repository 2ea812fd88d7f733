/- The walk of WordOrder. -/
import Derived.Test.YthldpmfobhemkaaLaw16
import Derived.Test.YthldpmfobhemkaaOpen
import Derived.Deep.RegionHeld3
namespace Go.Proofs.Ythldpmfobhemkaa
open Go.RowKit

theorem Try.info3 : (Try.prog.info? 3).map (fun i => (i.zero, i.size, i.bytes)) = some (some (.int .i64 0), 1, 8) := by kernel_rfl
theorem Two.pend0 {w W : World} {Bs : Nat} {va vb : Value} {n1 n2 : Nat} {xa xb : List Value} {ls : List (Nat × TypeId × Array Value)} {P : Nat} {u : Value} {l : List (Nat × Value)} (h : Two w W Bs va vb n1 n2 xa xb ls ((P, u) :: l)) : W.cell? ⟨P, 0, none⟩ = some u := (h.pend (P, u) (by simp)).2.2.2.2
theorem Two.pend1 {w W : World} {Bs : Nat} {va vb : Value} {n1 n2 : Nat} {xa xb : List Value} {ls : List (Nat × TypeId × Array Value)} {P : Nat} {u : Value} {e : Nat × Value} {l : List (Nat × Value)} (h : Two w W Bs va vb n1 n2 xa xb ls (e :: (P, u) :: l)) : W.cell? ⟨P, 0, none⟩ = some u := (h.pend (P, u) (by simp)).2.2.2.2
theorem Two.boxAt {w W : World} {Bs : Nat} {va vb : Value} {n1 n2 : Nat} {xa xb : List Value} {ls : List (Nat × TypeId × Array Value)} {l : List (Nat × Value)} (h : Two w W Bs va vb n1 n2 xa xb ls l) (u : Value) (t : TypeId) (P : Nat) (hP : W.heap.size = P) : Two w (W.alloc (.cells #[u] t)) Bs va vb n1 n2 xa xb ls ((P, u) :: l) := by
  subst hP
  exact h.box u t
theorem news_one {w : World} {P : Nat} {x : Value} (h : w.cell? ⟨P, 0, none⟩ = some x) : ∀ j u, [x][j]? = some u → w.cell? ((⟨P, 0, none⟩ : Addr).add j) = some u := by
  intro j u hu
  match j, hu with
  | 0, hu => simp at hu; subst hu; simpa [Addr.add] using h
theorem one_int (x : Int) : ∀ u ∈ [Value.int .i64 x], u.oneCell' = true := by
  intro u hu
  simp at hu
  subst hu
  rfl

set_option maxRecDepth 20000 in
set_option maxHeartbeats 4000000 in
theorem order_out (b s n m : Int) (A B : Option Addr) (na ca nb cb : Nat) (h : na ≠ nb ∨ na = 0 ∨ 200 < na) (w : World) : Calls Try.prog 3 #[.agg #[.int .i64 b, .int .i64 s], .agg #[.slice A na ca, .slice B nb cb], .agg #[.int .i64 n, .int .i64 m]] w fun e w' => e = .returned (.bool true) ∧ Below w.heap.size w w' := by
  by_cases h1 : na = nb
  · subst h1
    by_cases h2 : na = 0
    · have n1 : ((na : Int) == 0) = true := by simp [h2]
      have n2 : (na == 0) = true := by simp [h2]
      have n3 : decide ((na : Int) = 0) = true := decide_eq_true (by omega)
      clear h h2
      go_enter Try.func3, Try.ntmps3
      go_wp2_with fail
      (with_reducible refine (awake_any _).mono ?_)
      rintro e w1 ⟨rfl, hb1⟩
      obtain ⟨bF1, cF1, fF1, zF1⟩ := (((Blk.new w 23 #[.int .i64 b, .int .i64 s]).alloc _).alloc _).next hb1
      obtain ⟨bA1, cA1, fA1, zA1⟩ := ((Blk.new (w.alloc _) 26 #[.slice A na ca, .slice B na cb]).alloc _).next hb1
      obtain ⟨bW1, cW1, fW1, zW1⟩ := (Blk.new ((w.alloc _).alloc _) 28 #[.int .i64 n, .int .i64 m]).next hb1
      simp at bF1 cF1 fF1 zF1 bA1 cA1 fA1 zA1 bW1 cW1 fW1 zW1
      have B1 := below_call (below_box (below_box (below_box (Below.refl w.heap.size w) _) _) _) hb1
      go_wp2_with fail
      (with_reducible refine (awake_any _).mono ?_)
      rintro e w2 ⟨rfl, hb2⟩
      have B2 := below_call B1 hb2
      go_wp2_with fail
      go_ret
      exact ⟨rfl, B2⟩
    · have h3 : 200 < na := by omega
      have n1 : ((na : Int) == 0) = false := by simp; omega
      have n2 : (na == 0) = false := by simp; omega
      have n3 : decide ((na : Int) = 0) = false := decide_eq_false (by omega)
      have n4 : decide ((200 : Int) < (na : Int)) = true := decide_eq_true (by omega)
      have n5 : decide (200 < na) = true := decide_eq_true h3
      clear h h2 h3
      go_enter Try.func3, Try.ntmps3
      go_wp2_with fail
      (with_reducible refine (awake_any _).mono ?_)
      rintro e w1 ⟨rfl, hb1⟩
      obtain ⟨bF1, cF1, fF1, zF1⟩ := (((Blk.new w 23 #[.int .i64 b, .int .i64 s]).alloc _).alloc _).next hb1
      obtain ⟨bA1, cA1, fA1, zA1⟩ := ((Blk.new (w.alloc _) 26 #[.slice A na ca, .slice B na cb]).alloc _).next hb1
      obtain ⟨bW1, cW1, fW1, zW1⟩ := (Blk.new ((w.alloc _).alloc _) 28 #[.int .i64 n, .int .i64 m]).next hb1
      simp at bF1 cF1 fF1 zF1 bA1 cA1 fA1 zA1 bW1 cW1 fW1 zW1
      have B1 := below_call (below_box (below_box (below_box (Below.refl w.heap.size w) _) _) _) hb1
      go_wp2_with fail
      (with_reducible refine (awake_any _).mono ?_)
      rintro e w2 ⟨rfl, hb2⟩
      have B2 := below_call B1 hb2
      go_wp2_with fail
      go_ret
      exact ⟨rfl, B2⟩
  · have n1 : ((na : Int) != (nb : Int)) = true := by simp; omega
    have n2 : (na != nb) = true := by simp; omega
    have n3 : decide ((na : Int) = (nb : Int)) = false := decide_eq_false (by omega)
    clear h
    go_enter Try.func3, Try.ntmps3
    go_wp2_with fail
    (with_reducible refine (awake_any _).mono ?_)
    rintro e w1 ⟨rfl, hb1⟩
    obtain ⟨bF1, cF1, fF1, zF1⟩ := (((Blk.new w 23 #[.int .i64 b, .int .i64 s]).alloc _).alloc _).next hb1
    obtain ⟨bA1, cA1, fA1, zA1⟩ := ((Blk.new (w.alloc _) 26 #[.slice A na ca, .slice B nb cb]).alloc _).next hb1
    obtain ⟨bW1, cW1, fW1, zW1⟩ := (Blk.new ((w.alloc _).alloc _) 28 #[.int .i64 n, .int .i64 m]).next hb1
    simp at bF1 cF1 fF1 zF1 bA1 cA1 fA1 zA1 bW1 cW1 fW1 zW1
    have B1 := below_call (below_box (below_box (below_box (Below.refl w.heap.size w) _) _) _) hb1
    go_wp2_with fail
    (with_reducible refine (awake_any _).mono ?_)
    rintro e w2 ⟨rfl, hb2⟩
    have B2 := below_call B1 hb2
    go_wp2_with fail
    go_ret
    exact ⟨rfl, B2⟩

set_option maxRecDepth 20000 in
set_option maxHeartbeats 8000000 in
theorem order_in (b s n m : Int) (f g : Nat → Int) (k ba oa ca bb ob cb : Nat) (hk : 0 < k) (hk2 : k ≤ 200) (hca2 : k ≤ ca) (hcb2 : k ≤ cb) (w : World) (hba : ba < w.heap.size) (hbb : bb < w.heap.size) (hca : ∀ i, i < k → w.cell? ⟨ba, oa + i, none⟩ = some (.int .i64 (f i))) (hcb : ∀ i, i < k → w.cell? ⟨bb, ob + i, none⟩ = some (.int .i64 (g i))) : Calls Try.prog 3 #[.agg #[.int .i64 b, .int .i64 s], .agg #[.slice (some ⟨ba, oa, none⟩) k ca, .slice (some ⟨bb, ob, none⟩) k cb], .agg #[.int .i64 n, .int .i64 m]] w fun e w' => e = .returned (.bool true) ∧ Below w.heap.size w w' := by
  obtain ⟨i0, hi, hz0, hz1, hz2⟩ := info_parts Try.info3
  have HBa := Lib.hid hba
  have HBb := Lib.hid hbb
  have CA := Lib.hid hca
  have CB := Lib.hid hcb
  clear hba hbb hca hcb
  have n1 : ((k : Int) == 0) = false := by simp; omega
  have n2 : (k == 0) = false := by simp; omega
  have n3 : decide ((k : Int) = 0) = false := decide_eq_false (by omega)
  have n4 : decide ((200 : Int) < (k : Int)) = false := decide_eq_false (by omega)
  have n5 : decide (200 < k) = false := decide_eq_false (by omega)
  obtain ⟨k1, hk1⟩ : ∃ k1, k - 1 = k1 := ⟨_, rfl⟩
  have wk : IntKind.i64.wrap ((k : Int) - 1) = (k1 : Int) := by rw [show (k : Int) - 1 = (k1 : Int) by omega]; exact IntWalk.i64_in _ (by omega)
  have DD := Lib.hid (Dot_all b s k f g n m)
  have DR := Dot_all b s k (fun i => g (k - 1 - i)) (fun i => f (k - 1 - i)) n m
  rw [(dot_rev b s k f g n m).1, (dot_rev b s k f g n m).2.1, (dot_rev b s k f g n m).2.2] at DR
  replace DR := Lib.hid DR
  have D1 := Lib.hid (Dot_all b s 1 (fun _ => f 0) (fun _ => g 0) n m)
  have M1 := Lib.hid (Mul_all b s (f 0) (g 0) n m)
  generalize dotA b s k f g n m = a1 at DD DR
  generalize dotC b s k f g n m = c1 at DD DR
  generalize dotE b s k f g n m = e1 at DD DR
  generalize dotA b s 1 (fun _ => f 0) (fun _ => g 0) n m = a2 at D1 M1
  generalize dotC b s 1 (fun _ => f 0) (fun _ => g 0) n m = c2 at D1 M1
  generalize dotE b s 1 (fun _ => f 0) (fun _ => g 0) n m = e2 at D1 M1
  have hcap : (1 : Int) ≤ (ca : Int) := by omega
  have hcap2 : (1 : Int) ≤ (cb : Int) := by omega
  have hcap3 : 1 ≤ ca := by omega
  have hcap4 : 1 ≤ cb := by omega
  go_enter Try.func3, Try.ntmps3
  go_wp2_with fail
  (with_reducible refine (awake_any _).mono ?_)
  rintro e w1 ⟨rfl, hb1⟩
  obtain ⟨bF1, cF1, fF1, zF1⟩ := (((Blk.new w 23 #[.int .i64 b, .int .i64 s]).alloc _).alloc _).next hb1
  obtain ⟨bA1, cA1, fA1, zA1⟩ := ((Blk.new (w.alloc _) 26 #[.slice (some ⟨ba, oa, none⟩) k ca, .slice (some ⟨bb, ob, none⟩) k cb]).alloc _).next hb1
  obtain ⟨bW1, cW1, fW1, zW1⟩ := (Blk.new ((w.alloc _).alloc _) 28 #[.int .i64 n, .int .i64 m]).next hb1
  simp at bF1 cF1 fF1 zF1 bA1 cA1 fA1 zA1 bW1 cW1 fW1 zW1
  have B1 := below_call (below_box (below_box (below_box (Below.refl w.heap.size w) _) _) _) hb1
  have KK : Kp w w1 [(w.heap.size, 23, #[.int .i64 b, .int .i64 s]), (w.heap.size + 1, 26, #[.slice (some ⟨ba, oa, none⟩) k ca, .slice (some ⟨bb, ob, none⟩) k cb]), (w.heap.size + 2, 28, #[.int .i64 n, .int .i64 m])] := ⟨bF1, bA1, bW1, B1⟩
  have TT := Two.new KK B1.size (by simp; omega)
  go_wp2_with fail
  clear bF1 bA1 bW1 cF1 cA1 cW1 fF1 fA1 fW1 B1 KK
  go_loopw [8, 9, 45] (fun va vb i wr => ∃ kk : Nat, i = .int .i64 (kk : Int) ∧ kk ≤ k ∧ Two w wr w1.heap.size va vb kk kk (revL f k kk) (revL g k kk) [(w.heap.size, 23, #[.int .i64 b, .int .i64 s]), (w.heap.size + 1, 26, #[.slice (some ⟨ba, oa, none⟩) k ca, .slice (some ⟨bb, ob, none⟩) k cb]), (w.heap.size + 2, 28, #[.int .i64 n, .int .i64 m])] []) (fun _ _ i _ => k - (intOf i).toNat)
  case atStart => exact ⟨0, rfl, Nat.zero_le _, TT⟩
  case round =>
    clear TT
    obtain ⟨kk, rfl, hle, TT⟩ := hrel
    by_cases hlt : kk < k
    · have g1 : decide ((kk : Int) < (k : Int)) = true := decide_eq_true (by omega)
      have g2 : decide (kk < k) = true := decide_eq_true hlt
      obtain ⟨j, hj⟩ : ∃ j, k - 1 - kk = j := ⟨_, rfl⟩
      have wj : IntKind.i64.wrap ((k1 : Int) - (kk : Int)) = (j : Int) := by rw [show (k1 : Int) - (kk : Int) = (j : Int) by omega]; exact IntWalk.i64_in _ (by omega)
      have hjk : j < k := by omega
      have HCa := Lib.hid (CA.out j hjk)
      have HCb := Lib.hid (CB.out j hjk)
      replace hj := Lib.hid hj
      go_wp2_with fail
      refine wp_region_held_drew (S := fun w' => (∀ i, w'.cell? ⟨w.heap.size + 1, i, none⟩ = (#[.slice (some ⟨ba, oa, none⟩) k ca, .slice (some ⟨bb, ob, none⟩) k cb] : Array Value)[i]?) ∧ w'.cell? ⟨ba, oa + j, none⟩ = some (.int .i64 (f j)) ∧ w'.cell? ⟨bb, ob + j, none⟩ = some (.int .i64 (g j))) (by kernel_rfl) ?_ (fun hHeld => ?_)
      · exact ⟨TT.drew.kp.2.1.cell, TT.drew.kp.old HBa HCa, TT.drew.kp.old HBb HCb⟩
      replace TT := TT.drew
      generalize wr.drew = wd at TT hHeld ⊢
      refine wpAnyH_take (i := 0) (v := ?_) (by simp only [List.getElem?_toArray, List.getElem?_cons_zero]; rfl) (by kernel_rfl) (by kernel_rfl) (by kernel_rfl) (by intro _ _ _ h; exact h) (Or.inl ⟨by rfl, ?_⟩) (by assumption) ?_
      rotate_left
      · (intro w hSw; (try dsimp only at hSw); go_simp) <;> with_reducible rfl
      try simp only [Act.put, List.setIfInBounds_toArray, List.set_cons_zero, List.set_cons_succ]
      refine wpAnyH_take (i := 1) (v := ?_) (by simp only [List.getElem?_toArray, List.getElem?_cons_succ, List.getElem?_cons_zero]; rfl) (by kernel_rfl) (by kernel_rfl) (by kernel_rfl) (by intro _ _ _ h; exact h) (Or.inl ⟨by rfl, ?_⟩) (by assumption) ?_
      rotate_left
      · (intro w hSw; (try dsimp only at hSw); go_simp) <;> with_reducible rfl
      try simp only [Act.put, List.setIfInBounds_toArray, List.set_cons_zero, List.set_cons_succ]
      refine wpAnyH_take (i := 2) (v := ?_) (by simp only [List.getElem?_toArray, List.getElem?_cons_succ, List.getElem?_cons_zero]; rfl) (by kernel_rfl) (by kernel_rfl) (by kernel_rfl) (by intro _ _ _ h; exact h) (Or.inl ⟨by rfl, ?_⟩) (by assumption) ?_
      rotate_left
      · (intro w hSw; (try dsimp only at hSw); go_simp) <;> with_reducible rfl
      try simp only [Act.put, List.setIfInBounds_toArray, List.set_cons_zero, List.set_cons_succ]
      refine wpAnyH_take (i := 3) (v := ?_) (by simp only [List.getElem?_toArray, List.getElem?_cons_succ, List.getElem?_cons_zero]; rfl) (by kernel_rfl) (by kernel_rfl) (by kernel_rfl) (by intro _ _ _ h; exact h) (Or.inl ⟨by rfl, ?_⟩) (by assumption) ?_
      rotate_left
      · (intro w hSw; (try dsimp only at hSw); go_simp) <;> with_reducible rfl
      try simp only [Act.put, List.setIfInBounds_toArray, List.set_cons_zero, List.set_cons_succ]
      refine wpAnyH_take (i := 4) (v := ?_) (by simp only [List.getElem?_toArray, List.getElem?_cons_succ, List.getElem?_cons_zero]; rfl) (by kernel_rfl) (by kernel_rfl) (by kernel_rfl) (by intro _ _ _ h; exact h) (Or.inl ⟨by rfl, ?_⟩) (by assumption) ?_
      rotate_left
      · (intro w hSw; (try dsimp only at hSw); go_simp) <;> with_reducible rfl
      try simp only [Act.put, List.setIfInBounds_toArray, List.set_cons_zero, List.set_cons_succ]
      refine wpAnyH_take (i := 5) (v := ?_) (by simp only [List.getElem?_toArray, List.getElem?_cons_succ, List.getElem?_cons_zero]; rfl) (by kernel_rfl) (by kernel_rfl) (by kernel_rfl) (by intro _ _ _ h; exact h) (Or.inl ⟨by rfl, ?_⟩) (by assumption) ?_
      rotate_left
      · (intro w hSw; (try dsimp only at hSw); go_simp) <;> with_reducible rfl
      try simp only [Act.put, List.setIfInBounds_toArray, List.set_cons_zero, List.set_cons_succ]
      refine wpAnyH_take (i := 6) (v := ?_) (by simp only [List.getElem?_toArray, List.getElem?_cons_succ, List.getElem?_cons_zero]; rfl) (by kernel_rfl) (by kernel_rfl) (by kernel_rfl) (by intro _ _ _ h; exact h) (Or.inl ⟨by rfl, ?_⟩) (by assumption) ?_
      rotate_left
      · (intro w hSw; (try dsimp only at hSw); go_simp) <;> with_reducible rfl
      try simp only [Act.put, List.setIfInBounds_toArray, List.set_cons_zero, List.set_cons_succ]
      refine wpAnyH_take (i := 7) (v := ?_) (by simp only [List.getElem?_toArray, List.getElem?_cons_succ, List.getElem?_cons_zero]; rfl) (by kernel_rfl) (by kernel_rfl) (by kernel_rfl) (by intro _ _ _ h; exact h) (Or.inl ⟨by rfl, ?_⟩) (by assumption) ?_
      rotate_left
      · (intro w hSw; (try dsimp only at hSw); go_simp) <;> with_reducible rfl
      try simp only [Act.put, List.setIfInBounds_toArray, List.set_cons_zero, List.set_cons_succ]
      refine wpAnyH_take (i := 8) (v := ?_) (by simp only [List.getElem?_toArray, List.getElem?_cons_succ, List.getElem?_cons_zero]; rfl) (by kernel_rfl) (by kernel_rfl) (by kernel_rfl) (by intro _ _ _ h; exact h) (Or.inl ⟨by rfl, ?_⟩) (by assumption) ?_
      rotate_left
      · (intro w hSw; (try dsimp only at hSw); go_simp) <;> with_reducible rfl
      try simp only [Act.put, List.setIfInBounds_toArray, List.set_cons_zero, List.set_cons_succ]
      refine wpAnyH_take (i := 11) (v := ?_) (by simp only [List.getElem?_toArray, List.getElem?_cons_succ, List.getElem?_cons_zero]; rfl) (by kernel_rfl) (by kernel_rfl) (by kernel_rfl) (by intro _ _ _ h; exact h) (Or.inl ⟨by rfl, ?_⟩) (by assumption) ?_
      rotate_left
      · (intro w hSw; (try dsimp only at hSw); go_simp) <;> with_reducible rfl
      try simp only [Act.put, List.setIfInBounds_toArray, List.set_cons_zero, List.set_cons_succ]
      refine wpAnyH_take (i := 12) (v := ?_) (by simp only [List.getElem?_toArray, List.getElem?_cons_succ, List.getElem?_cons_zero]; rfl) (by kernel_rfl) (by kernel_rfl) (by kernel_rfl) (by intro _ _ _ h; exact h) (Or.inl ⟨by rfl, ?_⟩) (by assumption) ?_
      rotate_left
      · (intro w hSw; (try dsimp only at hSw); go_simp) <;> with_reducible rfl
      try simp only [Act.put, List.setIfInBounds_toArray, List.set_cons_zero, List.set_cons_succ]
      refine wpAnyH_take (i := 13) (v := ?_) (by simp only [List.getElem?_toArray, List.getElem?_cons_succ, List.getElem?_cons_zero]; rfl) (by kernel_rfl) (by kernel_rfl) (by kernel_rfl) (by intro _ _ _ h; exact h) (Or.inl ⟨by rfl, ?_⟩) (by assumption) ?_
      rotate_left
      · (intro w hSw; (try dsimp only at hSw); go_simp) <;> with_reducible rfl
      try simp only [Act.put, List.setIfInBounds_toArray, List.set_cons_zero, List.set_cons_succ]
      refine wpAnyH_take (i := 14) (v := ?_) (by simp only [List.getElem?_toArray, List.getElem?_cons_succ, List.getElem?_cons_zero]; rfl) (by kernel_rfl) (by kernel_rfl) (by kernel_rfl) (by intro _ _ _ h; exact h) (Or.inl ⟨by rfl, ?_⟩) (by assumption) ?_
      rotate_left
      · (intro w hSw; (try dsimp only at hSw); go_simp) <;> with_reducible rfl
      try simp only [Act.put, List.setIfInBounds_toArray, List.set_cons_zero, List.set_cons_succ]
      refine wpAnyH_take (i := 15) (v := ?_) (by simp only [List.getElem?_toArray, List.getElem?_cons_succ, List.getElem?_cons_zero]; rfl) (by kernel_rfl) (by kernel_rfl) (by kernel_rfl) (by intro _ _ _ h; exact h) (Or.inl ⟨by rfl, ?_⟩) (by assumption) ?_
      rotate_left
      · (intro w hSw; (try dsimp only at hSw); go_simp) <;> with_reducible rfl
      try simp only [Act.put, List.setIfInBounds_toArray, List.set_cons_zero, List.set_cons_succ]
      refine wpAnyH_take (i := 16) (v := ?_) (by simp only [List.getElem?_toArray, List.getElem?_cons_succ, List.getElem?_cons_zero]; rfl) (by kernel_rfl) (by kernel_rfl) (by kernel_rfl) (by intro _ _ _ h; exact h) (Or.inl ⟨by rfl, ?_⟩) (by assumption) ?_
      rotate_left
      · (intro w hSw; (try dsimp only at hSw); go_simp) <;> with_reducible rfl
      try simp only [Act.put, List.setIfInBounds_toArray, List.set_cons_zero, List.set_cons_succ]
      refine wpAnyH_take (i := 17) (v := ?_) (by simp only [List.getElem?_toArray, List.getElem?_cons_succ, List.getElem?_cons_zero]; rfl) (by kernel_rfl) (by kernel_rfl) (by kernel_rfl) (by intro _ _ _ h; exact h) (Or.inl ⟨by rfl, ?_⟩) (by assumption) ?_
      rotate_left
      · (intro w hSw; (try dsimp only at hSw); go_simp) <;> with_reducible rfl
      try simp only [Act.put, List.setIfInBounds_toArray, List.set_cons_zero, List.set_cons_succ]
      refine wpAnyH_take (i := 18) (v := ?_) (by simp only [List.getElem?_toArray, List.getElem?_cons_succ, List.getElem?_cons_zero]; rfl) (by kernel_rfl) (by kernel_rfl) (by kernel_rfl) (by intro _ _ _ h; exact h) (Or.inl ⟨by rfl, ?_⟩) (by assumption) ?_
      rotate_left
      · (intro w hSw; (try dsimp only at hSw); go_simp) <;> with_reducible rfl
      try simp only [Act.put, List.setIfInBounds_toArray, List.set_cons_zero, List.set_cons_succ]
      refine wpAnyH_take (i := 19) (v := ?_) (by simp only [List.getElem?_toArray, List.getElem?_cons_succ, List.getElem?_cons_zero]; rfl) (by kernel_rfl) (by kernel_rfl) (by kernel_rfl) (by intro _ _ _ h; exact h) (Or.inl ⟨by rfl, ?_⟩) (by assumption) ?_
      rotate_left
      · (intro w hSw; (try dsimp only at hSw); go_simp) <;> with_reducible rfl
      try simp only [Act.put, List.setIfInBounds_toArray, List.set_cons_zero, List.set_cons_succ]
      refine wpAnyH_ready (rs := [9, 20]) (by kernel_rfl) (by simp) ?_
      refine AllReadyH.cons (by simp only [List.getElem?_toArray, List.getElem?_cons_succ, List.getElem?_cons_zero]; rfl) (fun K hK => ?_) (AllReadyH.cons (by simp only [List.getElem?_toArray, List.getElem?_cons_succ, List.getElem?_cons_zero]; rfl) (fun K hK => ?_) AllReadyH.nil)
      · go_simp
        replace TT := TT.boxAt (.int .i64 (f j)) 3 (wd.heap.size) (by first | rfl | simp)
        refine hK.out _ _ ?_ (fun hHeld => ?_)
        · exact ⟨TT.kp.2.1.cell, TT.kp.old HBa HCa, TT.kp.old HBb HCb⟩
        clear hK K
        try simp only [Act.put, List.setIfInBounds_toArray, List.set_cons_zero, List.set_cons_succ]
        refine wpAnyH_ready (rs := [10, 20]) (by kernel_rfl) (by simp) ?_
        refine AllReadyH.cons (by simp only [List.getElem?_toArray, List.getElem?_cons_succ, List.getElem?_cons_zero]; rfl) (fun K hK => ?_) (AllReadyH.cons (by simp only [List.getElem?_toArray, List.getElem?_cons_succ, List.getElem?_cons_zero]; rfl) (fun K hK => ?_) AllReadyH.nil)
        · refine step_append_lies _ (by rfl) _ _ _ (by rfl) w1.heap.size 3 i0 (.int .i64 0) 1 8 Try.underlying24 hi hz0 hz1 hz2 rfl (by omega) _ kk _ (by rfl) TT.oa _ 1 1 [.int .i64 (f j)] ?hx rfl (news_one TT.pend0) (one_int _) (by omega) (by unfold maxLen; omega) (by omega) TT.size _ rfl ?hk
          case hx => rfl
          case hk => 
            intro g10 cap10 w10 hown hgrow hat hlt
            replace TT := TT.growA hgrow hown hat
            clear hown hgrow hat hlt
            refine hK.out _ _ ?_ (fun hHeld => ?_)
            · exact ⟨TT.kp.2.1.cell, TT.kp.old HBa HCa, TT.kp.old HBb HCb⟩
            clear hK K
            try simp only [Act.put, List.setIfInBounds_toArray, List.set_cons_zero, List.set_cons_succ]
            refine wpAnyH_ready (rs := [20]) (by kernel_rfl) (by simp) ?_
            refine AllReadyH.cons (by simp only [List.getElem?_toArray, List.getElem?_cons_succ, List.getElem?_cons_zero]; rfl) (fun K hK => ?_) AllReadyH.nil
            · go_simp
              replace TT := TT.boxAt (.int .i64 (g j)) 3 (w10.heap.size) (by first | rfl | simp)
              refine hK.out _ _ ?_ (fun hHeld => ?_)
              · exact ⟨TT.kp.2.1.cell, TT.kp.old HBa HCa, TT.kp.old HBb HCb⟩
              clear hK K
              try simp only [Act.put, List.setIfInBounds_toArray, List.set_cons_zero, List.set_cons_succ]
              refine wpAnyH_ready (rs := [21]) (by kernel_rfl) (by simp) ?_
              refine AllReadyH.cons (by simp only [List.getElem?_toArray, List.getElem?_cons_succ, List.getElem?_cons_zero]; rfl) (fun K hK => ?_) AllReadyH.nil
              · refine step_append_lies _ (by rfl) _ _ _ (by rfl) w1.heap.size 3 i0 (.int .i64 0) 1 8 Try.underlying24 hi hz0 hz1 hz2 rfl (by omega) _ kk _ (by rfl) TT.ob _ 1 1 [.int .i64 (g j)] ?hx rfl (news_one TT.pend0) (one_int _) (by omega) (by unfold maxLen; omega) (by omega) TT.size _ rfl ?hk
                case hx => rfl
                case hk => 
                  intro g21 cap21 w21 hown hgrow hat hlt
                  replace TT := TT.growB hgrow hown hat
                  clear hown hgrow hat hlt
                  refine hK.out _ _ ?_ (fun hHeld => ?_)
                  · exact ⟨TT.kp.2.1.cell, TT.kp.old HBa HCa, TT.kp.old HBb HCb⟩
                  clear hK K
                  try simp only [Act.put, List.setIfInBounds_toArray, List.set_cons_zero, List.set_cons_succ]
                  refine wpAnyH_take (i := 22) (v := ?_) (by simp only [List.getElem?_toArray, List.getElem?_cons_succ, List.getElem?_cons_zero]; rfl) (by kernel_rfl) (by kernel_rfl) (by kernel_rfl) (by intro _ _ _ h; exact h) (Or.inl ⟨by rfl, ?_⟩) (by assumption) ?_
                  rotate_left
                  · (intro w hSw; (try dsimp only at hSw); go_simp) <;> with_reducible rfl
                  try simp only [Act.put, List.setIfInBounds_toArray, List.set_cons_zero, List.set_cons_succ]
                  refine wpAnyH_take (i := 23) (v := ?_) (by simp only [List.getElem?_toArray, List.getElem?_cons_succ, List.getElem?_cons_zero]; rfl) (by kernel_rfl) (by kernel_rfl) (by kernel_rfl) (by intro _ _ _ h; exact h) (Or.inl ⟨by rfl, ?_⟩) (by assumption) ?_
                  rotate_left
                  · (intro w hSw; (try dsimp only at hSw); go_simp) <;> with_reducible rfl
                  try simp only [Act.put, List.setIfInBounds_toArray, List.set_cons_zero, List.set_cons_succ]
                  refine wpAnyH_done (by kernel_rfl) ?_ _
                  go_wp2_with fail
                  exact ⟨⟨kk + 1, by go_num, by omega, by rw [revL_succ, revL_succ, hj.out]; exact TT.drop⟩, by simp [intOf]; omega⟩
        · go_simp
          replace TT := TT.boxAt (.int .i64 (g j)) 3 (wd.heap.size + 1) (by first | rfl | simp)
          refine hK.out _ _ ?_ (fun hHeld => ?_)
          · exact ⟨TT.kp.2.1.cell, TT.kp.old HBa HCa, TT.kp.old HBb HCb⟩
          clear hK K
          try simp only [Act.put, List.setIfInBounds_toArray, List.set_cons_zero, List.set_cons_succ]
          refine wpAnyH_ready (rs := [10]) (by kernel_rfl) (by simp) ?_
          refine AllReadyH.cons (by simp only [List.getElem?_toArray, List.getElem?_cons_succ, List.getElem?_cons_zero]; rfl) (fun K hK => ?_) AllReadyH.nil
          · refine step_append_lies _ (by rfl) _ _ _ (by rfl) w1.heap.size 3 i0 (.int .i64 0) 1 8 Try.underlying24 hi hz0 hz1 hz2 rfl (by omega) _ kk _ (by rfl) TT.oa _ 1 1 [.int .i64 (f j)] ?hx rfl (news_one TT.pend1) (one_int _) (by omega) (by unfold maxLen; omega) (by omega) TT.size _ rfl ?hk
            case hx => rfl
            case hk => 
              intro g10 cap10 w10 hown hgrow hat hlt
              replace TT := TT.growA hgrow hown hat
              clear hown hgrow hat hlt
              refine hK.out _ _ ?_ (fun hHeld => ?_)
              · exact ⟨TT.kp.2.1.cell, TT.kp.old HBa HCa, TT.kp.old HBb HCb⟩
              clear hK K
              try simp only [Act.put, List.setIfInBounds_toArray, List.set_cons_zero, List.set_cons_succ]
              refine wpAnyH_ready (rs := [21]) (by kernel_rfl) (by simp) ?_
              refine AllReadyH.cons (by simp only [List.getElem?_toArray, List.getElem?_cons_succ, List.getElem?_cons_zero]; rfl) (fun K hK => ?_) AllReadyH.nil
              · refine step_append_lies _ (by rfl) _ _ _ (by rfl) w1.heap.size 3 i0 (.int .i64 0) 1 8 Try.underlying24 hi hz0 hz1 hz2 rfl (by omega) _ kk _ (by rfl) TT.ob _ 1 1 [.int .i64 (g j)] ?hx rfl (news_one TT.pend0) (one_int _) (by omega) (by unfold maxLen; omega) (by omega) TT.size _ rfl ?hk
                case hx => rfl
                case hk => 
                  intro g21 cap21 w21 hown hgrow hat hlt
                  replace TT := TT.growB hgrow hown hat
                  clear hown hgrow hat hlt
                  refine hK.out _ _ ?_ (fun hHeld => ?_)
                  · exact ⟨TT.kp.2.1.cell, TT.kp.old HBa HCa, TT.kp.old HBb HCb⟩
                  clear hK K
                  try simp only [Act.put, List.setIfInBounds_toArray, List.set_cons_zero, List.set_cons_succ]
                  refine wpAnyH_take (i := 22) (v := ?_) (by simp only [List.getElem?_toArray, List.getElem?_cons_succ, List.getElem?_cons_zero]; rfl) (by kernel_rfl) (by kernel_rfl) (by kernel_rfl) (by intro _ _ _ h; exact h) (Or.inl ⟨by rfl, ?_⟩) (by assumption) ?_
                  rotate_left
                  · (intro w hSw; (try dsimp only at hSw); go_simp) <;> with_reducible rfl
                  try simp only [Act.put, List.setIfInBounds_toArray, List.set_cons_zero, List.set_cons_succ]
                  refine wpAnyH_take (i := 23) (v := ?_) (by simp only [List.getElem?_toArray, List.getElem?_cons_succ, List.getElem?_cons_zero]; rfl) (by kernel_rfl) (by kernel_rfl) (by kernel_rfl) (by intro _ _ _ h; exact h) (Or.inl ⟨by rfl, ?_⟩) (by assumption) ?_
                  rotate_left
                  · (intro w hSw; (try dsimp only at hSw); go_simp) <;> with_reducible rfl
                  try simp only [Act.put, List.setIfInBounds_toArray, List.set_cons_zero, List.set_cons_succ]
                  refine wpAnyH_done (by kernel_rfl) ?_ _
                  go_wp2_with fail
                  exact ⟨⟨kk + 1, by go_num, by omega, by rw [revL_succ, revL_succ, hj.out]; exact TT.drop⟩, by simp [intOf]; omega⟩
      · go_simp
        replace TT := TT.boxAt (.int .i64 (g j)) 3 (wd.heap.size) (by first | rfl | simp)
        refine hK.out _ _ ?_ (fun hHeld => ?_)
        · exact ⟨TT.kp.2.1.cell, TT.kp.old HBa HCa, TT.kp.old HBb HCb⟩
        clear hK K
        try simp only [Act.put, List.setIfInBounds_toArray, List.set_cons_zero, List.set_cons_succ]
        refine wpAnyH_ready (rs := [9]) (by kernel_rfl) (by simp) ?_
        refine AllReadyH.cons (by simp only [List.getElem?_toArray, List.getElem?_cons_succ, List.getElem?_cons_zero]; rfl) (fun K hK => ?_) AllReadyH.nil
        · go_simp
          replace TT := TT.boxAt (.int .i64 (f j)) 3 (wd.heap.size + 1) (by first | rfl | simp)
          refine hK.out _ _ ?_ (fun hHeld => ?_)
          · exact ⟨TT.kp.2.1.cell, TT.kp.old HBa HCa, TT.kp.old HBb HCb⟩
          clear hK K
          try simp only [Act.put, List.setIfInBounds_toArray, List.set_cons_zero, List.set_cons_succ]
          refine wpAnyH_ready (rs := [10]) (by kernel_rfl) (by simp) ?_
          refine AllReadyH.cons (by simp only [List.getElem?_toArray, List.getElem?_cons_succ, List.getElem?_cons_zero]; rfl) (fun K hK => ?_) AllReadyH.nil
          · refine step_append_lies _ (by rfl) _ _ _ (by rfl) w1.heap.size 3 i0 (.int .i64 0) 1 8 Try.underlying24 hi hz0 hz1 hz2 rfl (by omega) _ kk _ (by rfl) TT.oa _ 1 1 [.int .i64 (f j)] ?hx rfl (news_one TT.pend0) (one_int _) (by omega) (by unfold maxLen; omega) (by omega) TT.size _ rfl ?hk
            case hx => rfl
            case hk => 
              intro g10 cap10 w10 hown hgrow hat hlt
              replace TT := TT.growA hgrow hown hat
              clear hown hgrow hat hlt
              refine hK.out _ _ ?_ (fun hHeld => ?_)
              · exact ⟨TT.kp.2.1.cell, TT.kp.old HBa HCa, TT.kp.old HBb HCb⟩
              clear hK K
              try simp only [Act.put, List.setIfInBounds_toArray, List.set_cons_zero, List.set_cons_succ]
              refine wpAnyH_ready (rs := [21]) (by kernel_rfl) (by simp) ?_
              refine AllReadyH.cons (by simp only [List.getElem?_toArray, List.getElem?_cons_succ, List.getElem?_cons_zero]; rfl) (fun K hK => ?_) AllReadyH.nil
              · refine step_append_lies _ (by rfl) _ _ _ (by rfl) w1.heap.size 3 i0 (.int .i64 0) 1 8 Try.underlying24 hi hz0 hz1 hz2 rfl (by omega) _ kk _ (by rfl) TT.ob _ 1 1 [.int .i64 (g j)] ?hx rfl (news_one TT.pend1) (one_int _) (by omega) (by unfold maxLen; omega) (by omega) TT.size _ rfl ?hk
                case hx => rfl
                case hk => 
                  intro g21 cap21 w21 hown hgrow hat hlt
                  replace TT := TT.growB hgrow hown hat
                  clear hown hgrow hat hlt
                  refine hK.out _ _ ?_ (fun hHeld => ?_)
                  · exact ⟨TT.kp.2.1.cell, TT.kp.old HBa HCa, TT.kp.old HBb HCb⟩
                  clear hK K
                  try simp only [Act.put, List.setIfInBounds_toArray, List.set_cons_zero, List.set_cons_succ]
                  refine wpAnyH_take (i := 22) (v := ?_) (by simp only [List.getElem?_toArray, List.getElem?_cons_succ, List.getElem?_cons_zero]; rfl) (by kernel_rfl) (by kernel_rfl) (by kernel_rfl) (by intro _ _ _ h; exact h) (Or.inl ⟨by rfl, ?_⟩) (by assumption) ?_
                  rotate_left
                  · (intro w hSw; (try dsimp only at hSw); go_simp) <;> with_reducible rfl
                  try simp only [Act.put, List.setIfInBounds_toArray, List.set_cons_zero, List.set_cons_succ]
                  refine wpAnyH_take (i := 23) (v := ?_) (by simp only [List.getElem?_toArray, List.getElem?_cons_succ, List.getElem?_cons_zero]; rfl) (by kernel_rfl) (by kernel_rfl) (by kernel_rfl) (by intro _ _ _ h; exact h) (Or.inl ⟨by rfl, ?_⟩) (by assumption) ?_
                  rotate_left
                  · (intro w hSw; (try dsimp only at hSw); go_simp) <;> with_reducible rfl
                  try simp only [Act.put, List.setIfInBounds_toArray, List.set_cons_zero, List.set_cons_succ]
                  refine wpAnyH_done (by kernel_rfl) ?_ _
                  go_wp2_with fail
                  exact ⟨⟨kk + 1, by go_num, by omega, by rw [revL_succ, revL_succ, hj.out]; exact TT.drop⟩, by simp [intOf]; omega⟩
    · have e0 : kk = k := by omega
      subst e0
      have g1 : decide ((kk : Int) < (kk : Int)) = false := decide_eq_false (by omega)
      have g2 : decide (kk < kk) = false := decide_eq_false (by omega)
      obtain ⟨ga, ka, rfl, hga, hgca⟩ := own_form TT.oa hk
      obtain ⟨gb, kb, rfl, hgb, hgcb⟩ := own_form TT.ob hk
      have KK := TT.kp
      have hz2 : w.heap.size ≤ wr.heap.size := Nat.le_trans TT.low TT.size
      clear TT
      have D0 := Lib.hid (DD.out ba oa ca bb ob cb (by omega) wr (Nat.lt_of_lt_of_le HBa.out hz2) (Nat.lt_of_lt_of_le HBb.out hz2) (fun i hi => KK.old HBa (Lib.hid (CA.out i hi))) (fun i hi => KK.old HBb (Lib.hid (CB.out i hi))))
      have hA0 := Lib.hid (CA.out 0 hk)
      have hB0 := Lib.hid (CB.out 0 hk)
      rw [Nat.add_zero] at hA0 hB0
      obtain ⟨cF, fF, zF⟩ := And.intro KK.1.cell (And.intro KK.1.frozen KK.1.lt)
      obtain ⟨cT, fT, zT⟩ := And.intro KK.2.1.cell (And.intro KK.2.1.frozen KK.2.1.lt)
      obtain ⟨cW, fW, zW⟩ := And.intro KK.2.2.1.cell (And.intro KK.2.2.1.frozen KK.2.2.1.lt)
      have D1K := Lib.hid (fun (W : World) (K : Kp w W [(w.heap.size, 23, #[.int .i64 b, .int .i64 s]), (w.heap.size + 1, 26, #[.slice (some ⟨ba, oa, none⟩) kk ca, .slice (some ⟨bb, ob, none⟩) kk cb]), (w.heap.size + 2, 28, #[.int .i64 n, .int .i64 m])]) => D1.out ba oa ca bb ob cb (by omega) W (Nat.lt_of_lt_of_le HBa.out K.below.size) (Nat.lt_of_lt_of_le HBb.out K.below.size) (fun i hi => by
        obtain rfl : i = 0 := by omega
        exact K.old HBa hA0) (fun i hi => by
        obtain rfl : i = 0 := by omega
        exact K.old HBb hB0))
      replace hgca := Lib.hid hgca
      replace hgcb := Lib.hid hgcb
      go_wp2_with fail
      (with_reducible refine D0.out.mono ?_)
      rintro e w2 ⟨rfl, hb2⟩
      have K2 := KK.call hb2
      have fr := far hb2
      have DB := Lib.hid (DR.out gb 0 kb ga 0 ka (by omega) w2 (Nat.lt_of_lt_of_le hgb fr.2.2) (Nat.lt_of_lt_of_le hga fr.2.2) (fun i hi => (fr.1 gb (0 + i) hgb).trans (hgcb.out i hi)) (fun i hi => (fr.1 ga (0 + i) hga).trans (hgca.out i hi)))
      clear cF fF zF cT fT zT cW fW zW fr KK
      obtain ⟨cF, fF, zF⟩ := And.intro K2.1.cell (And.intro K2.1.frozen K2.1.lt)
      obtain ⟨cT, fT, zT⟩ := And.intro K2.2.1.cell (And.intro K2.2.1.frozen K2.2.1.lt)
      obtain ⟨cW, fW, zW⟩ := And.intro K2.2.2.1.cell (And.intro K2.2.2.1.frozen K2.2.2.1.lt)
      go_wp2_with fail
      (with_reducible refine DB.out.mono ?_)
      rintro e w3 ⟨rfl, hb3⟩
      have K3 := K2.call hb3
      clear cF fF zF cT fT zT cW fW zW K2
      obtain ⟨cF, fF, zF⟩ := And.intro K3.1.cell (And.intro K3.1.frozen K3.1.lt)
      obtain ⟨cT, fT, zT⟩ := And.intro K3.2.1.cell (And.intro K3.2.1.frozen K3.2.1.lt)
      obtain ⟨cW, fW, zW⟩ := And.intro K3.2.2.1.cell (And.intro K3.2.2.1.frozen K3.2.2.1.lt)
      go_wp2_with fail
      (with_reducible refine (num_any e1 _).mono ?_)
      rintro e w' ⟨rfl, rfl⟩
      go_wp2_with fail
      (with_reducible refine (num_any e1 _).mono ?_)
      rintro e w' ⟨rfl, rfl⟩
      go_wp2_with fail
      have KD := K3.drew
      have dF := KD.1.cell
      have dT := KD.2.1.cell
      have dW := KD.2.2.1.cell
      go_region_held3 (fun w' => (∀ i, w'.cell? ⟨w.heap.size, i, none⟩ = (#[.int .i64 b, .int .i64 s] : Array Value)[i]?) ∧ (∀ i, w'.cell? ⟨w.heap.size + 1, i, none⟩ = (#[.slice (some ⟨ba, oa, none⟩) kk ca, .slice (some ⟨bb, ob, none⟩) kk cb] : Array Value)[i]?) ∧ (∀ i, w'.cell? ⟨w.heap.size + 2, i, none⟩ = (#[.int .i64 n, .int .i64 m] : Array Value)[i]?))
        (first
          | with_reducible exact ⟨dF, dT, dW⟩
          | with_reducible exact ⟨eF, eT, eW⟩
          | fail)
        (first
          | (go_at_call 15; (with_reducible refine (D1K.out _ KD).mono ?_); rintro e w4 ⟨rfl, hb4⟩; have KE := KD.call hb4; have eF := KE.1.cell; have eT := KE.2.1.cell; have eW := KE.2.2.1.cell))
      clear cF fF zF cT fT zT cW fW zW dF dT dW eF eT eW
      obtain ⟨cF, fF, zF⟩ := And.intro KE.1.cell (And.intro KE.1.frozen KE.1.lt)
      obtain ⟨cT, fT, zT⟩ := And.intro KE.2.1.cell (And.intro KE.2.1.frozen KE.2.1.lt)
      obtain ⟨cW, fW, zW⟩ := And.intro KE.2.2.1.cell (And.intro KE.2.2.1.frozen KE.2.2.1.lt)
      go_wp2_with fail
      have KG := KE.drew
      have dF := KG.1.cell
      have dT := KG.2.1.cell
      have dW := KG.2.2.1.cell
      have dA := KG.old HBa hA0
      have dB := KG.old HBb hB0
      have aA := KE.old HBa hA0
      have aB := KE.old HBb hB0
      go_region_held3 (fun w' => (∀ i, w'.cell? ⟨w.heap.size, i, none⟩ = (#[.int .i64 b, .int .i64 s] : Array Value)[i]?) ∧ (∀ i, w'.cell? ⟨w.heap.size + 1, i, none⟩ = (#[.slice (some ⟨ba, oa, none⟩) kk ca, .slice (some ⟨bb, ob, none⟩) kk cb] : Array Value)[i]?) ∧ (∀ i, w'.cell? ⟨w.heap.size + 2, i, none⟩ = (#[.int .i64 n, .int .i64 m] : Array Value)[i]?) ∧ w'.cell? ⟨ba, oa, none⟩ = some (.int .i64 (f 0)) ∧ w'.cell? ⟨bb, ob, none⟩ = some (.int .i64 (g 0)))
        (first
          | with_reducible exact ⟨dF, dT, dW, dA, dB⟩
          | with_reducible exact ⟨gF, gT, gW, gA, gB⟩
          | fail)
        (first
          | (go_at_call 17; (with_reducible refine (M1.out _).mono ?_); rintro e w5 ⟨rfl, hb5⟩; have KH := KG.call hb5; have gF := KH.1.cell; have gT := KH.2.1.cell; have gW := KH.2.2.1.cell; have gA := KH.old HBa hA0; have gB := KH.old HBb hB0))
      go_wp2_with fail
      (with_reducible refine (num_any e2 _).mono ?_)
      rintro e w' ⟨rfl, rfl⟩
      go_wp2_with fail
      (with_reducible refine (num_any e2 _).mono ?_)
      rintro e w' ⟨rfl, rfl⟩
      go_wp2_with fail
      go_ret
      exact ⟨ret_bool (by simp), KH.below⟩

theorem order_any (b s n m : Int) (A B : Option Addr) (na ca nb cb : Nat) (w : World) (hA : (0 < na → ∃ (ba oa : Nat) (f : Nat → Int), A = some ⟨ba, oa, none⟩ ∧ na ≤ ca ∧ ba < w.heap.size ∧ ∀ i, i < na → w.cell? ⟨ba, oa + i, none⟩ = some (.int .i64 (f i)))) (hB : (0 < nb → ∃ (bb ob : Nat) (f : Nat → Int), B = some ⟨bb, ob, none⟩ ∧ nb ≤ cb ∧ bb < w.heap.size ∧ ∀ i, i < nb → w.cell? ⟨bb, ob + i, none⟩ = some (.int .i64 (f i)))) : Calls Try.prog 3 #[.agg #[.int .i64 b, .int .i64 s], .agg #[.slice A na ca, .slice B nb cb], .agg #[.int .i64 n, .int .i64 m]] w fun e w' => e = .returned (.bool true) ∧ Below w.heap.size w w' := by
  by_cases h : na ≠ nb ∨ na = 0 ∨ 200 < na
  · exact order_out b s n m A B na ca nb cb h w
  · obtain rfl : na = nb := by omega
    have k0 : 0 < na := by omega
    have k1 : na ≤ 200 := by omega
    obtain ⟨ba, oa, f, rfl, h1, h2, h3⟩ := hA k0
    obtain ⟨bb, ob, g, rfl, h4, h5, h6⟩ := hB k0
    exact order_in b s n m f g na ba oa ca bb ob cb k0 k1 h1 h4 w h2 h5 h3 h6

end Go.Proofs.Ythldpmfobhemkaa
