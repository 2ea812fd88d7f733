/- The reference's Dot of one element. -/
import Derived.Test.YthldpmfobhemkaaLaw3
import Derived.Test.YthldpmfobhemkaaKeep
namespace Go.Proofs.Ythldpmfobhemkaa
open Go.RowKit


set_option maxRecDepth 20000 in
set_option maxHeartbeats 1000000 in
theorem rDot1_fmt (b s : Int) (n m : Int) (ba bb : Nat) (h : ¬ okF b s) (w : World) : Calls Try.prog 47 #[.agg #[.int .i64 b, .int .i64 s], .slice (some ⟨ba, 0, none⟩) 1 1, .slice (some ⟨bb, 0, none⟩) 1 1, .int .i64 n, .int .i64 m] w fun e w' => e = .returned (.tuple #[.int .i64 0, .bool false, .int .i64 3]) ∧ Below w.heap.size w w' := by
  go_enter Try.func47, Try.ntmps47
  go_wp2_with fail
  (with_reducible refine (rCheck_no b s h _).mono ?_)
  rintro e w1 ⟨rfl, hb1⟩
  have KK : Kp w w1 [(w.heap.size, 23, #[.int .i64 b, .int .i64 s])] := ⟨((Blk.new w 23 #[.int .i64 b, .int .i64 s]).next hb1).1, below_call (below_box (Below.refl w.heap.size w) _) hb1⟩
  go_wp2_with fail
  refine bodyPost_ret (v := .tuple #[.int .i64 0, .bool false, .int .i64 3]) ?_ rfl ⟨rfl, ?_⟩
  · simp [results, Try.results47, go_sem]
  · exact KK.below

set_option maxRecDepth 20000 in
set_option maxHeartbeats 2000000 in
theorem rDot1_one (b s x y : Int) (n m : Int) (ba bb : Nat) (h : okF b s) (h1 : isW b x = false) (w : World) (hba : ba < w.heap.size) (hbb : bb < w.heap.size) (hca : w.cell? ⟨ba, 0, none⟩ = some (.int .i64 x)) (hcb : w.cell? ⟨bb, 0, none⟩ = some (.int .i64 y)) : Calls Try.prog 47 #[.agg #[.int .i64 b, .int .i64 s], .slice (some ⟨ba, 0, none⟩) 1 1, .slice (some ⟨bb, 0, none⟩) 1 1, .int .i64 n, .int .i64 m] w fun e w' => e = .returned (.tuple #[.int .i64 0, .bool false, .int .i64 3]) ∧ Below w.heap.size w w' := by
  have IX := rIs_yes b s x h
  rw [h1] at IX
  have IX := Lib.hid IX
  have CY := Lib.hid (rCheck_yes b s h)
  have HBa := Lib.hid hba
  have HBb := Lib.hid hbb
  have HCa := Lib.hid hca
  have HCb := Lib.hid hcb
  clear hca hcb
  go_enter Try.func47, Try.ntmps47
  go_wp2_with fail
  (with_reducible refine (CY.out _).mono ?_)
  rintro e w1 ⟨rfl, hb1⟩
  have KK : Kp w w1 [(w.heap.size, 23, #[.int .i64 b, .int .i64 s])] := ⟨((Blk.new w 23 #[.int .i64 b, .int .i64 s]).next hb1).1, below_call (below_box (Below.refl w.heap.size w) _) hb1⟩
  go_wp2_with fail
  go_loopw [14, 15, 38] (fun hi lo i wr => ((i = .int .i64 0 ∧ hi = .int .i64 0 ∧ lo = .int .i64 0) ∨ (i = .int .i64 1 ∧ False)) ∧ Kp w wr [(w.heap.size, 23, #[.int .i64 b, .int .i64 s])]) (fun hi lo i _ => 1 - (intOf i).toNat)
  case atStart => exact ⟨.inl ⟨rfl, rfl, rfl⟩, by simpa using KK⟩
  case round =>
    clear KK
    obtain ⟨⟨rfl, rfl, rfl⟩ | ⟨rfl, hf⟩, KK⟩ := hrel
    · go_wp2_with fail
      refine wp_region_held_drew (S := fun w' => (∀ i, w'.cell? ⟨w.heap.size, i, none⟩ = (#[.int .i64 b, .int .i64 s] : Array Value)[i]?) ∧ w'.cell? ⟨ba, 0, none⟩ = some (.int .i64 x) ∧ w'.cell? ⟨bb, 0, none⟩ = some (.int .i64 y)) (by kernel_rfl) ?_ (fun hHeld => ?_)
      · exact ⟨KK.drew.1.cell, KK.drew.old HBa HCa, KK.drew.old HBb HCb⟩
      replace KK := KK.drew
      refine wpAnyH_take (i := 0) (v := ?_) (by simp only [List.getElem?_toArray, List.getElem?_cons_zero]; rfl) (by kernel_rfl) (by kernel_rfl) (by kernel_rfl) (by intro _ _ _ h; exact h) (Or.inl ⟨by rfl, ?_⟩) (by assumption) ?_
      rotate_left
      · (intro w hSw; (try dsimp only at hSw); go_simp) <;> with_reducible rfl
      try simp only [Act.put, List.setIfInBounds_toArray, List.set_cons_zero, List.set_cons_succ]
      refine wpAnyH_take (i := 1) (v := ?_) (by simp only [List.getElem?_toArray, List.getElem?_cons_succ, List.getElem?_cons_zero]; rfl) (by kernel_rfl) (by kernel_rfl) (by kernel_rfl) (by intro _ _ _ h; exact h) (Or.inl ⟨by rfl, ?_⟩) (by assumption) ?_
      rotate_left
      · (intro w hSw; (try dsimp only at hSw); go_simp) <;> with_reducible rfl
      try simp only [Act.put, List.setIfInBounds_toArray, List.set_cons_zero, List.set_cons_succ]
      refine wpAnyH_take (i := 2) (v := ?_) (by simp only [List.getElem?_toArray, List.getElem?_cons_succ, List.getElem?_cons_zero]; rfl) (by kernel_rfl) (by kernel_rfl) (by kernel_rfl) (by intro _ _ _ h; exact h) (Or.inl ⟨by rfl, ?_⟩) (by assumption) ?_
      rotate_left
      · (intro w hSw; (try dsimp only at hSw); go_simp) <;> with_reducible rfl
      try simp only [Act.put, List.setIfInBounds_toArray, List.set_cons_zero, List.set_cons_succ]
      refine wpAnyH_take (i := 3) (v := ?_) (by simp only [List.getElem?_toArray, List.getElem?_cons_succ, List.getElem?_cons_zero]; rfl) (by kernel_rfl) (by kernel_rfl) (by kernel_rfl) (by intro _ _ _ h; exact h) (Or.inl ⟨by rfl, ?_⟩) (by assumption) ?_
      rotate_left
      · (intro w hSw; (try dsimp only at hSw); go_simp) <;> with_reducible rfl
      try simp only [Act.put, List.setIfInBounds_toArray, List.set_cons_zero, List.set_cons_succ]
      refine wpAnyH_take (i := 4) (v := ?_) (by simp only [List.getElem?_toArray, List.getElem?_cons_succ, List.getElem?_cons_zero]; rfl) (by kernel_rfl) (by kernel_rfl) (by kernel_rfl) (by intro _ _ _ h; exact h) (Or.inl ⟨by rfl, ?_⟩) (by assumption) ?_
      rotate_left
      · (intro w hSw; (try dsimp only at hSw); go_simp) <;> with_reducible rfl
      try simp only [Act.put, List.setIfInBounds_toArray, List.set_cons_zero, List.set_cons_succ]
      refine wpAnyH_ready (rs := [5]) (by kernel_rfl) (by simp) ?_
      refine AllReadyH.cons (by simp only [List.getElem?_toArray, List.getElem?_cons_succ, List.getElem?_cons_zero]; rfl) (fun K hK => ?_) AllReadyH.nil
      go_simp
      go_at_call 48
      (with_reducible refine (IX.out _).mono ?_)
      rintro e wz ⟨rfl, hbz⟩
      replace KK := KK.call hbz
      clear hbz
      go_wp2_with fail
      refine hK.out _ _ ?_ (fun hHeld => ?_)
      · exact ⟨KK.1.cell, KK.old HBa HCa, KK.old HBb HCb⟩
      clear hK K
      try simp only [Act.put, List.setIfInBounds_toArray, List.set_cons_zero, List.set_cons_succ]
      refine wpAnyH_take (i := 6) (v := ?_) (by simp only [List.getElem?_toArray, List.getElem?_cons_succ, List.getElem?_cons_zero]; rfl) (by kernel_rfl) (by kernel_rfl) (by kernel_rfl) (by intro _ _ _ h; exact h) (Or.inl ⟨by rfl, ?_⟩) (by assumption) ?_
      rotate_left
      · (intro w hSw; (try dsimp only at hSw); go_simp) <;> with_reducible rfl
      try simp only [Act.put, List.setIfInBounds_toArray, List.set_cons_zero, List.set_cons_succ]
      refine wpAnyH_take (i := 7) (v := ?_) (by simp only [List.getElem?_toArray, List.getElem?_cons_succ, List.getElem?_cons_zero]; rfl) (by kernel_rfl) (by kernel_rfl) (by kernel_rfl) (by intro _ _ _ h; exact h) (Or.inl ⟨by rfl, ?_⟩) (by assumption) ?_
      rotate_left
      · (intro w hSw; (try dsimp only at hSw); go_simp) <;> with_reducible rfl
      try simp only [Act.put, List.setIfInBounds_toArray, List.set_cons_zero, List.set_cons_succ]
      refine wpAnyH_take (i := 8) (by simp only [List.getElem?_toArray, List.getElem?_cons_succ, List.getElem?_cons_zero]; rfl) (by kernel_rfl) (by kernel_rfl) (by kernel_rfl) (by intro _ _ _ h; exact h) (Or.inr ⟨by rfl, rfl⟩) (by assumption) ?_
      try simp only [Act.put, List.setIfInBounds_toArray, List.set_cons_zero, List.set_cons_succ]
      refine wpAnyH_take (i := 9) (by simp only [List.getElem?_toArray, List.getElem?_cons_succ, List.getElem?_cons_zero]; rfl) (by kernel_rfl) (by kernel_rfl) (by kernel_rfl) (by intro _ _ _ h; exact h) (Or.inr ⟨by rfl, rfl⟩) (by assumption) ?_
      try simp only [Act.put, List.setIfInBounds_toArray, List.set_cons_zero, List.set_cons_succ]
      refine wpAnyH_take (i := 10) (by simp only [List.getElem?_toArray, List.getElem?_cons_succ, List.getElem?_cons_zero]; rfl) (by kernel_rfl) (by kernel_rfl) (by kernel_rfl) (by intro _ _ _ h; exact h) (Or.inr ⟨by rfl, rfl⟩) (by assumption) ?_
      try simp only [Act.put, List.setIfInBounds_toArray, List.set_cons_zero, List.set_cons_succ]
      refine wpAnyH_take (i := 11) (by simp only [List.getElem?_toArray, List.getElem?_cons_succ, List.getElem?_cons_zero]; rfl) (by kernel_rfl) (by kernel_rfl) (by kernel_rfl) (by intro _ _ _ h; exact h) (Or.inr ⟨by rfl, rfl⟩) (by assumption) ?_
      try simp only [Act.put, List.setIfInBounds_toArray, List.set_cons_zero, List.set_cons_succ]
      refine wpAnyH_take (i := 12) (by simp only [List.getElem?_toArray, List.getElem?_cons_succ, List.getElem?_cons_zero]; rfl) (by kernel_rfl) (by kernel_rfl) (by kernel_rfl) (by intro _ _ _ h; exact h) (Or.inr ⟨by rfl, rfl⟩) (by assumption) ?_
      try simp only [Act.put, List.setIfInBounds_toArray, List.set_cons_zero, List.set_cons_succ]
      refine wpAnyH_take (i := 13) (by simp only [List.getElem?_toArray, List.getElem?_cons_succ, List.getElem?_cons_zero]; rfl) (by kernel_rfl) (by kernel_rfl) (by kernel_rfl) (by intro _ _ _ h; exact h) (Or.inr ⟨by rfl, rfl⟩) (by assumption) ?_
      try simp only [Act.put, List.setIfInBounds_toArray, List.set_cons_zero, List.set_cons_succ]
      refine wpAnyH_take (i := 14) (by simp only [List.getElem?_toArray, List.getElem?_cons_succ, List.getElem?_cons_zero]; rfl) (by kernel_rfl) (by kernel_rfl) (by kernel_rfl) (by intro _ _ _ h; exact h) (Or.inr ⟨by rfl, rfl⟩) (by assumption) ?_
      try simp only [Act.put, List.setIfInBounds_toArray, List.set_cons_zero, List.set_cons_succ]
      refine wpAnyH_take (i := 15) (v := ?_) (by simp only [List.getElem?_toArray, List.getElem?_cons_succ, List.getElem?_cons_zero]; rfl) (by kernel_rfl) (by kernel_rfl) (by kernel_rfl) (by intro _ _ _ h; exact h) (Or.inl ⟨by rfl, ?_⟩) (by assumption) ?_
      rotate_left
      · (intro w hSw; (try dsimp only at hSw); go_simp) <;> with_reducible rfl
      try simp only [Act.put, List.setIfInBounds_toArray, List.set_cons_zero, List.set_cons_succ]
      refine wpAnyH_done (by kernel_rfl) ?_ _
      obtain ⟨cF, fF, zF⟩ := And.intro KK.1.cell (And.intro KK.1.frozen KK.1.lt)
      go_wp2_with fail
      refine bodyPost_ret (v := .tuple #[.int .i64 0, .bool false, .int .i64 3]) ?_ rfl ⟨rfl, ?_⟩
      · simp [results, Try.results47, go_sem]
      · exact KK.below
    · exact hf.elim

set_option maxRecDepth 20000 in
set_option maxHeartbeats 2000000 in
theorem rDot1_two (b s x y : Int) (n m : Int) (ba bb : Nat) (h : okF b s) (h1 : isW b x = true) (h2 : isW b y = false) (w : World) (hba : ba < w.heap.size) (hbb : bb < w.heap.size) (hca : w.cell? ⟨ba, 0, none⟩ = some (.int .i64 x)) (hcb : w.cell? ⟨bb, 0, none⟩ = some (.int .i64 y)) : Calls Try.prog 47 #[.agg #[.int .i64 b, .int .i64 s], .slice (some ⟨ba, 0, none⟩) 1 1, .slice (some ⟨bb, 0, none⟩) 1 1, .int .i64 n, .int .i64 m] w fun e w' => e = .returned (.tuple #[.int .i64 0, .bool false, .int .i64 3]) ∧ Below w.heap.size w w' := by
  have IX := rIs_yes b s x h
  rw [h1] at IX
  have IX := Lib.hid IX
  have IY := rIs_yes b s y h
  rw [h2] at IY
  have IY := Lib.hid IY
  have CY := Lib.hid (rCheck_yes b s h)
  have HBa := Lib.hid hba
  have HBb := Lib.hid hbb
  have HCa := Lib.hid hca
  have HCb := Lib.hid hcb
  clear hca hcb
  go_enter Try.func47, Try.ntmps47
  go_wp2_with fail
  (with_reducible refine (CY.out _).mono ?_)
  rintro e w1 ⟨rfl, hb1⟩
  have KK : Kp w w1 [(w.heap.size, 23, #[.int .i64 b, .int .i64 s])] := ⟨((Blk.new w 23 #[.int .i64 b, .int .i64 s]).next hb1).1, below_call (below_box (Below.refl w.heap.size w) _) hb1⟩
  go_wp2_with fail
  go_loopw [14, 15, 38] (fun hi lo i wr => ((i = .int .i64 0 ∧ hi = .int .i64 0 ∧ lo = .int .i64 0) ∨ (i = .int .i64 1 ∧ False)) ∧ Kp w wr [(w.heap.size, 23, #[.int .i64 b, .int .i64 s])]) (fun hi lo i _ => 1 - (intOf i).toNat)
  case atStart => exact ⟨.inl ⟨rfl, rfl, rfl⟩, by simpa using KK⟩
  case round =>
    clear KK
    obtain ⟨⟨rfl, rfl, rfl⟩ | ⟨rfl, hf⟩, KK⟩ := hrel
    · go_wp2_with fail
      refine wp_region_held_drew (S := fun w' => (∀ i, w'.cell? ⟨w.heap.size, i, none⟩ = (#[.int .i64 b, .int .i64 s] : Array Value)[i]?) ∧ w'.cell? ⟨ba, 0, none⟩ = some (.int .i64 x) ∧ w'.cell? ⟨bb, 0, none⟩ = some (.int .i64 y)) (by kernel_rfl) ?_ (fun hHeld => ?_)
      · exact ⟨KK.drew.1.cell, KK.drew.old HBa HCa, KK.drew.old HBb HCb⟩
      replace KK := KK.drew
      refine wpAnyH_take (i := 0) (v := ?_) (by simp only [List.getElem?_toArray, List.getElem?_cons_zero]; rfl) (by kernel_rfl) (by kernel_rfl) (by kernel_rfl) (by intro _ _ _ h; exact h) (Or.inl ⟨by rfl, ?_⟩) (by assumption) ?_
      rotate_left
      · (intro w hSw; (try dsimp only at hSw); go_simp) <;> with_reducible rfl
      try simp only [Act.put, List.setIfInBounds_toArray, List.set_cons_zero, List.set_cons_succ]
      refine wpAnyH_take (i := 1) (v := ?_) (by simp only [List.getElem?_toArray, List.getElem?_cons_succ, List.getElem?_cons_zero]; rfl) (by kernel_rfl) (by kernel_rfl) (by kernel_rfl) (by intro _ _ _ h; exact h) (Or.inl ⟨by rfl, ?_⟩) (by assumption) ?_
      rotate_left
      · (intro w hSw; (try dsimp only at hSw); go_simp) <;> with_reducible rfl
      try simp only [Act.put, List.setIfInBounds_toArray, List.set_cons_zero, List.set_cons_succ]
      refine wpAnyH_take (i := 2) (v := ?_) (by simp only [List.getElem?_toArray, List.getElem?_cons_succ, List.getElem?_cons_zero]; rfl) (by kernel_rfl) (by kernel_rfl) (by kernel_rfl) (by intro _ _ _ h; exact h) (Or.inl ⟨by rfl, ?_⟩) (by assumption) ?_
      rotate_left
      · (intro w hSw; (try dsimp only at hSw); go_simp) <;> with_reducible rfl
      try simp only [Act.put, List.setIfInBounds_toArray, List.set_cons_zero, List.set_cons_succ]
      refine wpAnyH_take (i := 3) (v := ?_) (by simp only [List.getElem?_toArray, List.getElem?_cons_succ, List.getElem?_cons_zero]; rfl) (by kernel_rfl) (by kernel_rfl) (by kernel_rfl) (by intro _ _ _ h; exact h) (Or.inl ⟨by rfl, ?_⟩) (by assumption) ?_
      rotate_left
      · (intro w hSw; (try dsimp only at hSw); go_simp) <;> with_reducible rfl
      try simp only [Act.put, List.setIfInBounds_toArray, List.set_cons_zero, List.set_cons_succ]
      refine wpAnyH_take (i := 4) (v := ?_) (by simp only [List.getElem?_toArray, List.getElem?_cons_succ, List.getElem?_cons_zero]; rfl) (by kernel_rfl) (by kernel_rfl) (by kernel_rfl) (by intro _ _ _ h; exact h) (Or.inl ⟨by rfl, ?_⟩) (by assumption) ?_
      rotate_left
      · (intro w hSw; (try dsimp only at hSw); go_simp) <;> with_reducible rfl
      try simp only [Act.put, List.setIfInBounds_toArray, List.set_cons_zero, List.set_cons_succ]
      refine wpAnyH_ready (rs := [5]) (by kernel_rfl) (by simp) ?_
      refine AllReadyH.cons (by simp only [List.getElem?_toArray, List.getElem?_cons_succ, List.getElem?_cons_zero]; rfl) (fun K hK => ?_) AllReadyH.nil
      go_simp
      go_at_call 48
      (with_reducible refine (IX.out _).mono ?_)
      rintro e wz ⟨rfl, hbz⟩
      replace KK := KK.call hbz
      clear hbz
      go_wp2_with fail
      refine hK.out _ _ ?_ (fun hHeld => ?_)
      · exact ⟨KK.1.cell, KK.old HBa HCa, KK.old HBb HCb⟩
      clear hK K
      try simp only [Act.put, List.setIfInBounds_toArray, List.set_cons_zero, List.set_cons_succ]
      refine wpAnyH_take (i := 6) (v := ?_) (by simp only [List.getElem?_toArray, List.getElem?_cons_succ, List.getElem?_cons_zero]; rfl) (by kernel_rfl) (by kernel_rfl) (by kernel_rfl) (by intro _ _ _ h; exact h) (Or.inl ⟨by rfl, ?_⟩) (by assumption) ?_
      rotate_left
      · (intro w hSw; (try dsimp only at hSw); go_simp) <;> with_reducible rfl
      try simp only [Act.put, List.setIfInBounds_toArray, List.set_cons_zero, List.set_cons_succ]
      refine wpAnyH_take (i := 7) (v := ?_) (by simp only [List.getElem?_toArray, List.getElem?_cons_succ, List.getElem?_cons_zero]; rfl) (by kernel_rfl) (by kernel_rfl) (by kernel_rfl) (by intro _ _ _ h; exact h) (Or.inl ⟨by rfl, ?_⟩) (by assumption) ?_
      rotate_left
      · (intro w hSw; (try dsimp only at hSw); go_simp) <;> with_reducible rfl
      try simp only [Act.put, List.setIfInBounds_toArray, List.set_cons_zero, List.set_cons_succ]
      refine wpAnyH_take (i := 8) (v := ?_) (by simp only [List.getElem?_toArray, List.getElem?_cons_succ, List.getElem?_cons_zero]; rfl) (by kernel_rfl) (by kernel_rfl) (by kernel_rfl) (by intro _ _ _ h; exact h) (Or.inl ⟨by rfl, ?_⟩) (by assumption) ?_
      rotate_left
      · (intro w hSw; (try dsimp only at hSw); go_simp) <;> with_reducible rfl
      try simp only [Act.put, List.setIfInBounds_toArray, List.set_cons_zero, List.set_cons_succ]
      refine wpAnyH_take (i := 9) (v := ?_) (by simp only [List.getElem?_toArray, List.getElem?_cons_succ, List.getElem?_cons_zero]; rfl) (by kernel_rfl) (by kernel_rfl) (by kernel_rfl) (by intro _ _ _ h; exact h) (Or.inl ⟨by rfl, ?_⟩) (by assumption) ?_
      rotate_left
      · (intro w hSw; (try dsimp only at hSw); go_simp) <;> with_reducible rfl
      try simp only [Act.put, List.setIfInBounds_toArray, List.set_cons_zero, List.set_cons_succ]
      refine wpAnyH_take (i := 10) (v := ?_) (by simp only [List.getElem?_toArray, List.getElem?_cons_succ, List.getElem?_cons_zero]; rfl) (by kernel_rfl) (by kernel_rfl) (by kernel_rfl) (by intro _ _ _ h; exact h) (Or.inl ⟨by rfl, ?_⟩) (by assumption) ?_
      rotate_left
      · (intro w hSw; (try dsimp only at hSw); go_simp) <;> with_reducible rfl
      try simp only [Act.put, List.setIfInBounds_toArray, List.set_cons_zero, List.set_cons_succ]
      refine wpAnyH_take (i := 11) (v := ?_) (by simp only [List.getElem?_toArray, List.getElem?_cons_succ, List.getElem?_cons_zero]; rfl) (by kernel_rfl) (by kernel_rfl) (by kernel_rfl) (by intro _ _ _ h; exact h) (Or.inl ⟨by rfl, ?_⟩) (by assumption) ?_
      rotate_left
      · (intro w hSw; (try dsimp only at hSw); go_simp) <;> with_reducible rfl
      try simp only [Act.put, List.setIfInBounds_toArray, List.set_cons_zero, List.set_cons_succ]
      refine wpAnyH_take (i := 12) (v := ?_) (by simp only [List.getElem?_toArray, List.getElem?_cons_succ, List.getElem?_cons_zero]; rfl) (by kernel_rfl) (by kernel_rfl) (by kernel_rfl) (by intro _ _ _ h; exact h) (Or.inl ⟨by rfl, ?_⟩) (by assumption) ?_
      rotate_left
      · (intro w hSw; (try dsimp only at hSw); go_simp) <;> with_reducible rfl
      try simp only [Act.put, List.setIfInBounds_toArray, List.set_cons_zero, List.set_cons_succ]
      refine wpAnyH_ready (rs := [13]) (by kernel_rfl) (by simp) ?_
      refine AllReadyH.cons (by simp only [List.getElem?_toArray, List.getElem?_cons_succ, List.getElem?_cons_zero]; rfl) (fun K hK => ?_) AllReadyH.nil
      go_simp
      go_at_call 48
      (with_reducible refine (IY.out _).mono ?_)
      rintro e wz ⟨rfl, hbz⟩
      replace KK := KK.call hbz
      clear hbz
      go_wp2_with fail
      refine hK.out _ _ ?_ (fun hHeld => ?_)
      · exact ⟨KK.1.cell, KK.old HBa HCa, KK.old HBb HCb⟩
      clear hK K
      try simp only [Act.put, List.setIfInBounds_toArray, List.set_cons_zero, List.set_cons_succ]
      refine wpAnyH_take (i := 14) (v := ?_) (by simp only [List.getElem?_toArray, List.getElem?_cons_succ, List.getElem?_cons_zero]; rfl) (by kernel_rfl) (by kernel_rfl) (by kernel_rfl) (by intro _ _ _ h; exact h) (Or.inl ⟨by rfl, ?_⟩) (by assumption) ?_
      rotate_left
      · (intro w hSw; (try dsimp only at hSw); go_simp) <;> with_reducible rfl
      try simp only [Act.put, List.setIfInBounds_toArray, List.set_cons_zero, List.set_cons_succ]
      refine wpAnyH_take (i := 15) (v := ?_) (by simp only [List.getElem?_toArray, List.getElem?_cons_succ, List.getElem?_cons_zero]; rfl) (by kernel_rfl) (by kernel_rfl) (by kernel_rfl) (by intro _ _ _ h; exact h) (Or.inl ⟨by rfl, ?_⟩) (by assumption) ?_
      rotate_left
      · (intro w hSw; (try dsimp only at hSw); go_simp) <;> with_reducible rfl
      try simp only [Act.put, List.setIfInBounds_toArray, List.set_cons_zero, List.set_cons_succ]
      refine wpAnyH_done (by kernel_rfl) ?_ _
      obtain ⟨cF, fF, zF⟩ := And.intro KK.1.cell (And.intro KK.1.frozen KK.1.lt)
      go_wp2_with fail
      refine bodyPost_ret (v := .tuple #[.int .i64 0, .bool false, .int .i64 3]) ?_ rfl ⟨rfl, ?_⟩
      · simp [results, Try.results47, go_sem]
      · exact KK.below
    · exact hf.elim

theorem split_hi (H L : Int) (j : Nat) (h : 0 ≤ L) (h2 : L < 4294967296) : (H * 4294967296 + L) / 2 ^ (j + 32) = H / 2 ^ j ∧ (H * 4294967296 + L) % 2 ^ (j + 32) = (H % 2 ^ j) * 4294967296 + L := by
  have hp := p2 j
  have a := qr H j
  have e : (2 : Int) ^ (j + 32) = 2 ^ j * 4294967296 := by rw [Int.pow_add]; rfl
  rw [e]
  have e2 : H * 4294967296 + L = ((H % 2 ^ j) * 4294967296 + L) + (H / 2 ^ j) * (2 ^ j * 4294967296) := by
    rw [← Int.mul_assoc, Int.mul_comm (H / 2 ^ j)]
    omega
  have b0 : 0 ≤ (H % 2 ^ j) * 4294967296 + L := by omega
  have b1 : (H % 2 ^ j) * 4294967296 + L < 2 ^ j * 4294967296 := by omega
  constructor
  · conv => lhs; rw [e2]
    rw [Int.add_mul_ediv_right _ _ (by omega), Int.ediv_eq_zero_of_lt b0 b1]
    omega
  · conv => lhs; rw [e2]
    rw [Int.add_mul_emod_self_right, Int.emod_eq_of_lt b0 b1]

set_option maxRecDepth 20000 in
set_option maxHeartbeats 4000000 in
theorem rDot1_bad (b s x y : Int) (n m : Int) (ba bb : Nat) (h : okW b s x y) (hbad : ¬ ((0 ≤ n ∧ n ≤ 62) ∧ 0 ≤ m ∧ m ≤ 3)) (w : World) (hba : ba < w.heap.size) (hbb : bb < w.heap.size) (hca : w.cell? ⟨ba, 0, none⟩ = some (.int .i64 x)) (hcb : w.cell? ⟨bb, 0, none⟩ = some (.int .i64 y)) : Calls Try.prog 47 #[.agg #[.int .i64 b, .int .i64 s], .slice (some ⟨ba, 0, none⟩) 1 1, .slice (some ⟨bb, 0, none⟩) 1 1, .int .i64 n, .int .i64 m] w fun e w' => e = .returned (.tuple #[.int .i64 0, .bool false, .int .i64 3]) ∧ Below w.heap.size w w' := by
  have hA := h.1.1
  have hB := h.1.2.1
  have hx := isW_le hA hB h.2.1
  have hy := isW_le hA hB h.2.2
  have hp := mul_le hx hy
  have IX := rIs_yes b s x h.1
  rw [h.2.1] at IX
  have IX := Lib.hid IX
  have IY := rIs_yes b s y h.1
  rw [h.2.2] at IY
  have IY := Lib.hid IY
  have CY := Lib.hid (rCheck_yes b s h.1)
  obtain ⟨p, hp1⟩ : ∃ p, x * y = p := ⟨_, rfl⟩
  rw [hp1] at hp
  have wp : IntKind.i64.wrap (x * y) = p := by rw [hp1]; exact IntWalk.i64_in _ (by omega)
  obtain ⟨H, hH⟩ : ∃ H, p / 4294967296 = H := ⟨_, rfl⟩
  obtain ⟨L, hL⟩ : ∃ L, p % 4294967296 = L := ⟨_, rfl⟩
  have an : bits .and .i64 p 4294967295 = L := by
    have := bits_mask 32 (by decide) p
    rw [← hL]
    simpa using this
  have pHL : H * 4294967296 + L = p := by omega
  have hLb : 0 ≤ L ∧ L < 4294967296 := by omega
  have hHb : -1073741824 ≤ H ∧ H ≤ 1073741824 := by omega
  have wH : IntKind.i64.wrap H = H := IntWalk.i64_in _ (by omega)
  have wL : IntKind.i64.wrap L = L := IntWalk.i64_in _ (by omega)
  have L0 : L / 4294967296 = 0 := by omega
  have aL : bits .and .i64 L 4294967295 = L := by
    have := bits_mask 32 (by decide) L
    rw [show (2 : Int) ^ 32 = 4294967296 by decide, Int.emod_eq_of_lt hLb.1 hLb.2] at this
    simpa using this
  have three : (decide (n < 0) = true) ∨ (decide (n < 0) = false ∧ decide (62 < n) = true) ∨ (decide (n < 0) = false ∧ decide (62 < n) = false ∧ (m < 0 ∨ 3 < m)) := by
    simp only [decide_eq_true_eq, decide_eq_false_iff_not]
    omega
  clear hbad
  have HBa := Lib.hid hba
  have HBb := Lib.hid hbb
  have HCa := Lib.hid hca
  have HCb := Lib.hid hcb
  clear hca hcb
  go_enter Try.func47, Try.ntmps47
  go_wp2_with fail
  (with_reducible refine (CY.out _).mono ?_)
  rintro e w1 ⟨rfl, hb1⟩
  have KK : Kp w w1 [(w.heap.size, 23, #[.int .i64 b, .int .i64 s])] := ⟨((Blk.new w 23 #[.int .i64 b, .int .i64 s]).next hb1).1, below_call (below_box (Below.refl w.heap.size w) _) hb1⟩
  go_wp2_with fail
  go_loopw [14, 15, 38] (fun hi lo i wr => ((i = .int .i64 0 ∧ hi = .int .i64 0 ∧ lo = .int .i64 0) ∨ (i = .int .i64 1 ∧ hi = .int .i64 H ∧ lo = .int .i64 L)) ∧ Kp w wr [(w.heap.size, 23, #[.int .i64 b, .int .i64 s])]) (fun hi lo i _ => 1 - (intOf i).toNat)
  case atStart => exact ⟨.inl ⟨rfl, rfl, rfl⟩, by simpa using KK⟩
  case round =>
    clear KK
    obtain ⟨⟨rfl, rfl, rfl⟩ | ⟨rfl, rfl, rfl⟩, KK⟩ := hrel
    · go_wp2_with fail
      refine wp_region_held_drew (S := fun w' => (∀ i, w'.cell? ⟨w.heap.size, i, none⟩ = (#[.int .i64 b, .int .i64 s] : Array Value)[i]?) ∧ w'.cell? ⟨ba, 0, none⟩ = some (.int .i64 x) ∧ w'.cell? ⟨bb, 0, none⟩ = some (.int .i64 y)) (by kernel_rfl) ?_ (fun hHeld => ?_)
      · exact ⟨KK.drew.1.cell, KK.drew.old HBa HCa, KK.drew.old HBb HCb⟩
      replace KK := KK.drew
      refine wpAnyH_take (i := 0) (v := ?_) (by simp only [List.getElem?_toArray, List.getElem?_cons_zero]; rfl) (by kernel_rfl) (by kernel_rfl) (by kernel_rfl) (by intro _ _ _ h; exact h) (Or.inl ⟨by rfl, ?_⟩) (by assumption) ?_
      rotate_left
      · (intro w hSw; (try dsimp only at hSw); go_simp) <;> with_reducible rfl
      try simp only [Act.put, List.setIfInBounds_toArray, List.set_cons_zero, List.set_cons_succ]
      refine wpAnyH_take (i := 1) (v := ?_) (by simp only [List.getElem?_toArray, List.getElem?_cons_succ, List.getElem?_cons_zero]; rfl) (by kernel_rfl) (by kernel_rfl) (by kernel_rfl) (by intro _ _ _ h; exact h) (Or.inl ⟨by rfl, ?_⟩) (by assumption) ?_
      rotate_left
      · (intro w hSw; (try dsimp only at hSw); go_simp) <;> with_reducible rfl
      try simp only [Act.put, List.setIfInBounds_toArray, List.set_cons_zero, List.set_cons_succ]
      refine wpAnyH_take (i := 2) (v := ?_) (by simp only [List.getElem?_toArray, List.getElem?_cons_succ, List.getElem?_cons_zero]; rfl) (by kernel_rfl) (by kernel_rfl) (by kernel_rfl) (by intro _ _ _ h; exact h) (Or.inl ⟨by rfl, ?_⟩) (by assumption) ?_
      rotate_left
      · (intro w hSw; (try dsimp only at hSw); go_simp) <;> with_reducible rfl
      try simp only [Act.put, List.setIfInBounds_toArray, List.set_cons_zero, List.set_cons_succ]
      refine wpAnyH_take (i := 3) (v := ?_) (by simp only [List.getElem?_toArray, List.getElem?_cons_succ, List.getElem?_cons_zero]; rfl) (by kernel_rfl) (by kernel_rfl) (by kernel_rfl) (by intro _ _ _ h; exact h) (Or.inl ⟨by rfl, ?_⟩) (by assumption) ?_
      rotate_left
      · (intro w hSw; (try dsimp only at hSw); go_simp) <;> with_reducible rfl
      try simp only [Act.put, List.setIfInBounds_toArray, List.set_cons_zero, List.set_cons_succ]
      refine wpAnyH_take (i := 4) (v := ?_) (by simp only [List.getElem?_toArray, List.getElem?_cons_succ, List.getElem?_cons_zero]; rfl) (by kernel_rfl) (by kernel_rfl) (by kernel_rfl) (by intro _ _ _ h; exact h) (Or.inl ⟨by rfl, ?_⟩) (by assumption) ?_
      rotate_left
      · (intro w hSw; (try dsimp only at hSw); go_simp) <;> with_reducible rfl
      try simp only [Act.put, List.setIfInBounds_toArray, List.set_cons_zero, List.set_cons_succ]
      refine wpAnyH_ready (rs := [5]) (by kernel_rfl) (by simp) ?_
      refine AllReadyH.cons (by simp only [List.getElem?_toArray, List.getElem?_cons_succ, List.getElem?_cons_zero]; rfl) (fun K hK => ?_) AllReadyH.nil
      go_simp
      go_at_call 48
      (with_reducible refine (IX.out _).mono ?_)
      rintro e wz ⟨rfl, hbz⟩
      replace KK := KK.call hbz
      clear hbz
      go_wp2_with fail
      refine hK.out _ _ ?_ (fun hHeld => ?_)
      · exact ⟨KK.1.cell, KK.old HBa HCa, KK.old HBb HCb⟩
      clear hK K
      try simp only [Act.put, List.setIfInBounds_toArray, List.set_cons_zero, List.set_cons_succ]
      refine wpAnyH_take (i := 6) (v := ?_) (by simp only [List.getElem?_toArray, List.getElem?_cons_succ, List.getElem?_cons_zero]; rfl) (by kernel_rfl) (by kernel_rfl) (by kernel_rfl) (by intro _ _ _ h; exact h) (Or.inl ⟨by rfl, ?_⟩) (by assumption) ?_
      rotate_left
      · (intro w hSw; (try dsimp only at hSw); go_simp) <;> with_reducible rfl
      try simp only [Act.put, List.setIfInBounds_toArray, List.set_cons_zero, List.set_cons_succ]
      refine wpAnyH_take (i := 7) (v := ?_) (by simp only [List.getElem?_toArray, List.getElem?_cons_succ, List.getElem?_cons_zero]; rfl) (by kernel_rfl) (by kernel_rfl) (by kernel_rfl) (by intro _ _ _ h; exact h) (Or.inl ⟨by rfl, ?_⟩) (by assumption) ?_
      rotate_left
      · (intro w hSw; (try dsimp only at hSw); go_simp) <;> with_reducible rfl
      try simp only [Act.put, List.setIfInBounds_toArray, List.set_cons_zero, List.set_cons_succ]
      refine wpAnyH_take (i := 8) (v := ?_) (by simp only [List.getElem?_toArray, List.getElem?_cons_succ, List.getElem?_cons_zero]; rfl) (by kernel_rfl) (by kernel_rfl) (by kernel_rfl) (by intro _ _ _ h; exact h) (Or.inl ⟨by rfl, ?_⟩) (by assumption) ?_
      rotate_left
      · (intro w hSw; (try dsimp only at hSw); go_simp) <;> with_reducible rfl
      try simp only [Act.put, List.setIfInBounds_toArray, List.set_cons_zero, List.set_cons_succ]
      refine wpAnyH_take (i := 9) (v := ?_) (by simp only [List.getElem?_toArray, List.getElem?_cons_succ, List.getElem?_cons_zero]; rfl) (by kernel_rfl) (by kernel_rfl) (by kernel_rfl) (by intro _ _ _ h; exact h) (Or.inl ⟨by rfl, ?_⟩) (by assumption) ?_
      rotate_left
      · (intro w hSw; (try dsimp only at hSw); go_simp) <;> with_reducible rfl
      try simp only [Act.put, List.setIfInBounds_toArray, List.set_cons_zero, List.set_cons_succ]
      refine wpAnyH_take (i := 10) (v := ?_) (by simp only [List.getElem?_toArray, List.getElem?_cons_succ, List.getElem?_cons_zero]; rfl) (by kernel_rfl) (by kernel_rfl) (by kernel_rfl) (by intro _ _ _ h; exact h) (Or.inl ⟨by rfl, ?_⟩) (by assumption) ?_
      rotate_left
      · (intro w hSw; (try dsimp only at hSw); go_simp) <;> with_reducible rfl
      try simp only [Act.put, List.setIfInBounds_toArray, List.set_cons_zero, List.set_cons_succ]
      refine wpAnyH_take (i := 11) (v := ?_) (by simp only [List.getElem?_toArray, List.getElem?_cons_succ, List.getElem?_cons_zero]; rfl) (by kernel_rfl) (by kernel_rfl) (by kernel_rfl) (by intro _ _ _ h; exact h) (Or.inl ⟨by rfl, ?_⟩) (by assumption) ?_
      rotate_left
      · (intro w hSw; (try dsimp only at hSw); go_simp) <;> with_reducible rfl
      try simp only [Act.put, List.setIfInBounds_toArray, List.set_cons_zero, List.set_cons_succ]
      refine wpAnyH_take (i := 12) (v := ?_) (by simp only [List.getElem?_toArray, List.getElem?_cons_succ, List.getElem?_cons_zero]; rfl) (by kernel_rfl) (by kernel_rfl) (by kernel_rfl) (by intro _ _ _ h; exact h) (Or.inl ⟨by rfl, ?_⟩) (by assumption) ?_
      rotate_left
      · (intro w hSw; (try dsimp only at hSw); go_simp) <;> with_reducible rfl
      try simp only [Act.put, List.setIfInBounds_toArray, List.set_cons_zero, List.set_cons_succ]
      refine wpAnyH_ready (rs := [13]) (by kernel_rfl) (by simp) ?_
      refine AllReadyH.cons (by simp only [List.getElem?_toArray, List.getElem?_cons_succ, List.getElem?_cons_zero]; rfl) (fun K hK => ?_) AllReadyH.nil
      go_simp
      go_at_call 48
      (with_reducible refine (IY.out _).mono ?_)
      rintro e wz ⟨rfl, hbz⟩
      replace KK := KK.call hbz
      clear hbz
      go_wp2_with fail
      refine hK.out _ _ ?_ (fun hHeld => ?_)
      · exact ⟨KK.1.cell, KK.old HBa HCa, KK.old HBb HCb⟩
      clear hK K
      try simp only [Act.put, List.setIfInBounds_toArray, List.set_cons_zero, List.set_cons_succ]
      refine wpAnyH_take (i := 14) (v := ?_) (by simp only [List.getElem?_toArray, List.getElem?_cons_succ, List.getElem?_cons_zero]; rfl) (by kernel_rfl) (by kernel_rfl) (by kernel_rfl) (by intro _ _ _ h; exact h) (Or.inl ⟨by rfl, ?_⟩) (by assumption) ?_
      rotate_left
      · (intro w hSw; (try dsimp only at hSw); go_simp) <;> with_reducible rfl
      try simp only [Act.put, List.setIfInBounds_toArray, List.set_cons_zero, List.set_cons_succ]
      refine wpAnyH_take (i := 15) (v := ?_) (by simp only [List.getElem?_toArray, List.getElem?_cons_succ, List.getElem?_cons_zero]; rfl) (by kernel_rfl) (by kernel_rfl) (by kernel_rfl) (by intro _ _ _ h; exact h) (Or.inl ⟨by rfl, ?_⟩) (by assumption) ?_
      rotate_left
      · (intro w hSw; (try dsimp only at hSw); go_simp) <;> with_reducible rfl
      try simp only [Act.put, List.setIfInBounds_toArray, List.set_cons_zero, List.set_cons_succ]
      refine wpAnyH_done (by kernel_rfl) ?_ _
      obtain ⟨cF, fF, zF⟩ := And.intro KK.1.cell (And.intro KK.1.frozen KK.1.lt)
      have ca := KK.old HBa HCa
      have cb := KK.old HBb HCb
      go_wp2_with fail
      go_quiet (fail)
      have KK := KK.drewN nq
      generalize _root_.Go.World.drewN _ nq = wg at KK ⊢
      clear ca cb
      have ca := KK.old HBa HCa
      have cb := KK.old HBb HCb
      go_wp2_with fail
      go_quiet (fail)
      have KK := KK.drewN nq
      generalize _root_.Go.World.drewN _ nq = wh at KK ⊢
      go_wp2_with fail
      exact ⟨⟨.inr ⟨rfl, rfl, rfl⟩, KK⟩, by simp [intOf]⟩
    · obtain ⟨cF, fF, zF⟩ := And.intro KK.1.cell (And.intro KK.1.frozen KK.1.lt)
      rcases three with g1 | ⟨g1, g2⟩ | ⟨g1, g2, g3⟩
      · go_wp2_with fail
        refine bodyPost_ret (v := .tuple #[.int .i64 0, .bool false, .int .i64 3]) ?_ rfl ⟨rfl, ?_⟩
        · simp [results, Try.results47, go_sem]
        · exact KK.below
      · go_wp2_with fail
        refine bodyPost_ret (v := .tuple #[.int .i64 0, .bool false, .int .i64 3]) ?_ rfl ⟨rfl, ?_⟩
        · simp [results, Try.results47, go_sem]
        · exact KK.below
      · go_wp2_with fail
        (with_reducible refine (rmode_no _ g3 _).mono ?_)
        rintro e w' ⟨rfl, rfl⟩
        go_wp2_with fail
        refine bodyPost_ret (v := .tuple #[.int .i64 0, .bool false, .int .i64 3]) ?_ rfl ⟨rfl, ?_⟩
        · simp [results, Try.results47, go_sem]
        · exact KK.below

end Go.Proofs.Ythldpmfobhemkaa
