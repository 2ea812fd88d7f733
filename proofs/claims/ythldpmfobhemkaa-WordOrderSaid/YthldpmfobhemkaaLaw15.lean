/- word.Dot. -/
import Derived.Test.YthldpmfobhemkaaLaw14
import Derived.StillTailTactics
import Derived.StillTail
namespace Go.Proofs.Ythldpmfobhemkaa
open Go.RowKit

theorem Kp.put2 {w W : World} {B : Nat} {t : TypeId} {x y : Value} {l : List (Nat × TypeId × Array Value)} (h : Kp w W ((B, t, #[x, y]) :: l)) (hB : w.heap.size ≤ B) (hl : ∀ e ∈ l, e.1 ≠ B) (u v : Value) : Kp w ((W.setCell ⟨B, 0, none⟩ u).setCell ⟨B, 1, none⟩ v) ((B, t, #[u, v]) :: l) :=
  ⟨(h.1.put 0 u).put 1 v, Kp.far hB v hl (Kp.far hB u hl h.2)⟩
def sumP (f g : Nat → Int) : Nat → Int
  | 0 => 0
  | k + 1 => sumP f g k + f k * g k
def allW (b : Int) (f g : Nat → Int) : Nat → Bool
  | 0 => true
  | k + 1 => allW b f g k && isW b (f k) && isW b (g k)
theorem allW_iff {b : Int} {f g : Nat → Int} : ∀ {k : Nat}, allW b f g k = true ↔ ∀ i, i < k → isW b (f i) = true ∧ isW b (g i) = true
  | 0 => by simp [allW]
  | k + 1 => by
    rw [allW, Bool.and_eq_true, Bool.and_eq_true, allW_iff]
    constructor
    · rintro ⟨⟨h, h1⟩, h2⟩ i hi
      by_cases e : i = k
      · subst e; exact ⟨h1, h2⟩
      · exact h i (by omega)
    · intro h
      exact ⟨⟨fun i hi => h i (by omega), (h k (by omega)).1⟩, (h k (by omega)).2⟩
theorem sumP_le {b : Int} (hA : 2 ≤ b) (hB : b ≤ 32) {f g : Nat → Int} : ∀ {k : Nat}, allW b f g k = true → -(k : Int) * 4611686018427387904 ≤ sumP f g k ∧ sumP f g k ≤ (k : Int) * 4611686018427387904
  | 0, _ => by simp [sumP]
  | k + 1, h => by
    rw [allW, Bool.and_eq_true, Bool.and_eq_true] at h
    have a := sumP_le hA hB h.1.1
    have c := mul_le (isW_le hA hB h.1.2) (isW_le hA hB h.2)
    rw [sumP]
    push_cast
    omega
def dotV (b : Int) (k : Nat) (f g : Nat → Int) (n : Nat) (m : Int) : Value :=
  if allW b f g k = true then .tuple #[.int .i64 (satV b (wideR (sumP f g k / 4294967296) (sumP f g k % 4294967296) n m)), .bool (satB b (wideR (sumP f g k / 4294967296) (sumP f g k % 4294967296) n m)), .nilIface]
  else .tuple #[.int .i64 0, .bool false, .iface 67 (.int .i64 3)]

set_option maxRecDepth 20000 in
set_option maxHeartbeats 4000000 in
theorem Dot_any (b s : Int) (k : Nat) (f g : Nat → Int) (n : Nat) (m : Int) (ba oa ca bb ob cb : Nat) (hF : okF b s) (hk : k ≤ 256) (hn : n ≤ 62) (hm : 0 ≤ m) (hm2 : m ≤ 3) (w : World) (hba : ba < w.heap.size) (hbb : bb < w.heap.size) (hca : ∀ i, i < k → w.cell? ⟨ba, oa + i, none⟩ = some (.int .i64 (f i))) (hcb : ∀ i, i < k → w.cell? ⟨bb, ob + i, none⟩ = some (.int .i64 (g i))) : Calls Try.prog 15 #[.agg #[.int .i64 b, .int .i64 s], .slice (some ⟨ba, oa, none⟩) k ca, .slice (some ⟨bb, ob, none⟩) k cb, .int .i64 n, .int .i64 m] w fun e w' => e = .returned (dotV b k f g n m) ∧ Below w.heap.size w w' := by
  have hA := hF.1
  have hB := hF.2.1
  have CY := Lib.hid (Check_yes b s hF)
  have CA := Lib.hid hca
  have CB := Lib.hid hcb
  have HBa := Lib.hid hba
  have HBb := Lib.hid hbb
  have IS := Lib.hid (fun x => is_any b s x hA hB)
  have SB := Lib.hid (fun k => @sumP_le b hA hB f g k)
  have NB : Hid (∀ i, i < k → ¬ (isW b (f i) = true ∧ isW b (g i) = true) → dotV b k f g n m = .tuple #[.int .i64 0, .bool false, .iface 67 (.int .i64 3)]) := Lib.hid (by
    intro i hi h
    unfold dotV
    rw [if_neg]
    intro h2
    exact h (allW_iff.1 h2 i hi))
  have YB : Hid (allW b f g k = true → dotV b k f g n m = .tuple #[.int .i64 (satV b (wideR (sumP f g k / 4294967296) (sumP f g k % 4294967296) n m)), .bool (satB b (wideR (sumP f g k / 4294967296) (sumP f g k % 4294967296) n m)), .nilIface]) := Lib.hid (by
    intro h
    unfold dotV
    rw [if_pos h])
  have WRA := Lib.hid (fun H L => wright_any H L n m hn)
  have SAT := Lib.hid (fun z => saturate_any b s z hA hB)
  have MY := Lib.hid (mode_yes m hm hm2)
  have g0 : decide ((256 : Int) < (k : Int)) = false := decide_eq_false (by omega)
  have g00 : decide (256 < k) = false := decide_eq_false (by omega)
  clear hca hcb hba hbb hm hm2
  go_enter Try.func15, Try.ntmps15
  go_wp2_with fail
  (with_reducible refine (CY.out _).mono ?_)
  rintro e w1 ⟨rfl, hb1⟩
  have KK : Kp w w1 [(w.heap.size, 23, #[.int .i64 b, .int .i64 s])] := ⟨((Blk.new w 23 #[.int .i64 b, .int .i64 s]).next hb1).1, below_call (below_box (Below.refl w.heap.size w) _) hb1⟩
  go_wp2_with fail
  (with_reducible refine (within_yes _ _ _ (Int.natCast_nonneg _) (by omega) _).mono ?_)
  rintro e w' ⟨rfl, rfl⟩
  go_wp2_with fail
  (with_reducible refine (MY.out _).mono ?_)
  rintro e w' ⟨rfl, rfl⟩
  have hz1 : w.heap.size + 1 ≤ w1.heap.size := by simpa using hb1.size
  have KK := KK.new #[.int .i64 0, .int .i64 0] 71
  go_wp2_with fail
  go_loopw [45] (fun i wr => ∃ kk : Nat, i = .int .i64 (kk : Int) ∧ kk ≤ k ∧ allW b f g kk = true ∧ Kp w wr [(w1.heap.size, 71, #[.int .i64 (sumP f g kk / 4294967296), .int .i64 (sumP f g kk % 4294967296)]), (w.heap.size, 23, #[.int .i64 b, .int .i64 s])]) (fun i _ => k - (intOf i).toNat)
  case atStart => exact ⟨0, rfl, Nat.zero_le _, rfl, KK⟩
  case round =>
    clear KK
    obtain ⟨kk, rfl, hle, hall, KK⟩ := hrel
    have SBk := SB.out kk hall
    have HAll := Lib.hid hall
    clear hall
    by_cases hlt : kk < k
    · have g1 : decide ((kk : Int) < (k : Int)) = true := decide_eq_true (by omega)
      have g2 : decide (kk < k) = true := decide_eq_true hlt
      have HCa := Lib.hid (CA.out kk hlt)
      have HCb := Lib.hid (CB.out kk hlt)
      have IX := Lib.hid (IS.out (f kk))
      have IY := Lib.hid (IS.out (g kk))
      cases h1 : isW b (f kk)
      · have BD := Lib.hid (NB.out kk hlt (by simp [h1]))
        rw [h1] at IX
        clear h1
        go_wp2_with fail
        refine wp_region_held_drew (S := fun w' => (∀ i, w'.cell? ⟨w.heap.size, i, none⟩ = (#[.int .i64 b, .int .i64 s] : Array Value)[i]?) ∧ w'.cell? ⟨ba, oa + kk, none⟩ = some (.int .i64 (f kk)) ∧ w'.cell? ⟨bb, ob + kk, none⟩ = some (.int .i64 (g kk))) (by kernel_rfl) ?_ (fun hHeld => ?_)
        · exact ⟨KK.drew.2.1.cell, KK.drew.old HBa HCa, KK.drew.old HBb HCb⟩
        replace KK := KK.drew
        refine wpAnyH_take (i := 0) (v := ?_) (by simp only [List.getElem?_toArray, List.getElem?_cons_zero]; rfl) (by kernel_rfl) (by kernel_rfl) (by kernel_rfl) (by intro _ _ _ h; exact h) (Or.inl ⟨by rfl, ?_⟩) (by assumption) ?_
        rotate_left
        · (intro w hSw; (try dsimp only at hSw); go_simp) <;> with_reducible rfl
        try simp only [Act.put, List.setIfInBounds_toArray, List.set_cons_zero, List.set_cons_succ]
        refine wpAnyH_take (i := 1) (v := ?_) (by simp only [List.getElem?_toArray, List.getElem?_cons_succ, List.getElem?_cons_zero]; rfl) (by kernel_rfl) (by kernel_rfl) (by kernel_rfl) (by intro _ _ _ h; exact h) (Or.inl ⟨by rfl, ?_⟩) (by assumption) ?_
        rotate_left
        · (intro w hSw; (try dsimp only at hSw); go_simp) <;> with_reducible rfl
        try simp only [Act.put, List.setIfInBounds_toArray, List.set_cons_zero, List.set_cons_succ]
        refine wpAnyH_take (i := 2) (v := ?_) (by simp only [List.getElem?_toArray, List.getElem?_cons_succ, List.getElem?_cons_zero]; rfl) (by kernel_rfl) (by kernel_rfl) (by kernel_rfl) (by intro _ _ _ h; exact h) (Or.inl ⟨by rfl, ?_⟩) (by assumption) ?_
        rotate_left
        · (intro w hSw; (try dsimp only at hSw); go_simp) <;> with_reducible rfl
        try simp only [Act.put, List.setIfInBounds_toArray, List.set_cons_zero, List.set_cons_succ]
        refine wpAnyH_take (i := 3) (v := ?_) (by simp only [List.getElem?_toArray, List.getElem?_cons_succ, List.getElem?_cons_zero]; rfl) (by kernel_rfl) (by kernel_rfl) (by kernel_rfl) (by intro _ _ _ h; exact h) (Or.inl ⟨by rfl, ?_⟩) (by assumption) ?_
        rotate_left
        · (intro w hSw; (try dsimp only at hSw); go_simp) <;> with_reducible rfl
        try simp only [Act.put, List.setIfInBounds_toArray, List.set_cons_zero, List.set_cons_succ]
        refine wpAnyH_take (i := 4) (v := ?_) (by simp only [List.getElem?_toArray, List.getElem?_cons_succ, List.getElem?_cons_zero]; rfl) (by kernel_rfl) (by kernel_rfl) (by kernel_rfl) (by intro _ _ _ h; exact h) (Or.inl ⟨by rfl, ?_⟩) (by assumption) ?_
        rotate_left
        · (intro w hSw; (try dsimp only at hSw); go_simp) <;> with_reducible rfl
        try simp only [Act.put, List.setIfInBounds_toArray, List.set_cons_zero, List.set_cons_succ]
        refine wpAnyH_ready (rs := [5]) (by kernel_rfl) (by simp) ?_
        refine AllReadyH.cons (by simp only [List.getElem?_toArray, List.getElem?_cons_succ, List.getElem?_cons_zero]; rfl) (fun K hK => ?_) AllReadyH.nil
        go_simp
        go_at_call 39
        (with_reducible refine (IX.out _).mono ?_)
        rintro e wz ⟨rfl, hbz⟩
        replace KK := KK.call hbz
        clear hbz
        go_wp2_with fail
        refine hK.out _ _ ?_ (fun hHeld => ?_)
        · exact ⟨KK.2.1.cell, KK.old HBa HCa, KK.old HBb HCb⟩
        clear hK K
        try simp only [Act.put, List.setIfInBounds_toArray, List.set_cons_zero, List.set_cons_succ]
        refine wpAnyH_take (i := 6) (v := ?_) (by simp only [List.getElem?_toArray, List.getElem?_cons_succ, List.getElem?_cons_zero]; rfl) (by kernel_rfl) (by kernel_rfl) (by kernel_rfl) (by intro _ _ _ h; exact h) (Or.inl ⟨by rfl, ?_⟩) (by assumption) ?_
        rotate_left
        · (intro w hSw; (try dsimp only at hSw); go_simp) <;> with_reducible rfl
        try simp only [Act.put, List.setIfInBounds_toArray, List.set_cons_zero, List.set_cons_succ]
        refine wpAnyH_take (i := 7) (v := ?_) (by simp only [List.getElem?_toArray, List.getElem?_cons_succ, List.getElem?_cons_zero]; rfl) (by kernel_rfl) (by kernel_rfl) (by kernel_rfl) (by intro _ _ _ h; exact h) (Or.inl ⟨by rfl, ?_⟩) (by assumption) ?_
        rotate_left
        · (intro w hSw; (try dsimp only at hSw); go_simp) <;> with_reducible rfl
        try simp only [Act.put, List.setIfInBounds_toArray, List.set_cons_zero, List.set_cons_succ]
        refine wpAnyH_take (i := 8) (by simp only [List.getElem?_toArray, List.getElem?_cons_succ, List.getElem?_cons_zero]; rfl) (by kernel_rfl) (by kernel_rfl) (by kernel_rfl) (by intro _ _ _ h; exact h) (Or.inr ⟨by rfl, rfl⟩) (by assumption) ?_
        try simp only [Act.put, List.setIfInBounds_toArray, List.set_cons_zero, List.set_cons_succ]
        refine wpAnyH_take (i := 9) (by simp only [List.getElem?_toArray, List.getElem?_cons_succ, List.getElem?_cons_zero]; rfl) (by kernel_rfl) (by kernel_rfl) (by kernel_rfl) (by intro _ _ _ h; exact h) (Or.inr ⟨by rfl, rfl⟩) (by assumption) ?_
        try simp only [Act.put, List.setIfInBounds_toArray, List.set_cons_zero, List.set_cons_succ]
        refine wpAnyH_take (i := 10) (by simp only [List.getElem?_toArray, List.getElem?_cons_succ, List.getElem?_cons_zero]; rfl) (by kernel_rfl) (by kernel_rfl) (by kernel_rfl) (by intro _ _ _ h; exact h) (Or.inr ⟨by rfl, rfl⟩) (by assumption) ?_
        try simp only [Act.put, List.setIfInBounds_toArray, List.set_cons_zero, List.set_cons_succ]
        refine wpAnyH_take (i := 11) (by simp only [List.getElem?_toArray, List.getElem?_cons_succ, List.getElem?_cons_zero]; rfl) (by kernel_rfl) (by kernel_rfl) (by kernel_rfl) (by intro _ _ _ h; exact h) (Or.inr ⟨by rfl, rfl⟩) (by assumption) ?_
        try simp only [Act.put, List.setIfInBounds_toArray, List.set_cons_zero, List.set_cons_succ]
        refine wpAnyH_take (i := 12) (by simp only [List.getElem?_toArray, List.getElem?_cons_succ, List.getElem?_cons_zero]; rfl) (by kernel_rfl) (by kernel_rfl) (by kernel_rfl) (by intro _ _ _ h; exact h) (Or.inr ⟨by rfl, rfl⟩) (by assumption) ?_
        try simp only [Act.put, List.setIfInBounds_toArray, List.set_cons_zero, List.set_cons_succ]
        refine wpAnyH_take (i := 13) (by simp only [List.getElem?_toArray, List.getElem?_cons_succ, List.getElem?_cons_zero]; rfl) (by kernel_rfl) (by kernel_rfl) (by kernel_rfl) (by intro _ _ _ h; exact h) (Or.inr ⟨by rfl, rfl⟩) (by assumption) ?_
        try simp only [Act.put, List.setIfInBounds_toArray, List.set_cons_zero, List.set_cons_succ]
        refine wpAnyH_take (i := 14) (by simp only [List.getElem?_toArray, List.getElem?_cons_succ, List.getElem?_cons_zero]; rfl) (by kernel_rfl) (by kernel_rfl) (by kernel_rfl) (by intro _ _ _ h; exact h) (Or.inr ⟨by rfl, rfl⟩) (by assumption) ?_
        try simp only [Act.put, List.setIfInBounds_toArray, List.set_cons_zero, List.set_cons_succ]
        refine wpAnyH_take (i := 15) (v := ?_) (by simp only [List.getElem?_toArray, List.getElem?_cons_succ, List.getElem?_cons_zero]; rfl) (by kernel_rfl) (by kernel_rfl) (by kernel_rfl) (by intro _ _ _ h; exact h) (Or.inl ⟨by rfl, ?_⟩) (by assumption) ?_
        rotate_left
        · (intro w hSw; (try dsimp only at hSw); go_simp) <;> with_reducible rfl
        try simp only [Act.put, List.setIfInBounds_toArray, List.set_cons_zero, List.set_cons_succ]
        refine wpAnyH_done (by kernel_rfl) ?_ _
        obtain ⟨cF, fF, zF⟩ := And.intro KK.2.1.cell (And.intro KK.2.1.frozen KK.2.1.lt)
        go_wp2_with fail
        refine bodyPost_ret (v := .tuple #[.int .i64 0, .bool false, .iface 67 (.int .i64 3)]) ?_ rfl ⟨by rw [BD.out], ?_⟩
        · simp [results, Try.results15, go_sem]
        · exact KK.below
      · rw [h1] at IX
        cases h2 : isW b (g kk)
        · have BD := Lib.hid (NB.out kk hlt (by simp [h2]))
          rw [h2] at IY
          clear h1 h2
          go_wp2_with fail
          refine wp_region_held_drew (S := fun w' => (∀ i, w'.cell? ⟨w.heap.size, i, none⟩ = (#[.int .i64 b, .int .i64 s] : Array Value)[i]?) ∧ w'.cell? ⟨ba, oa + kk, none⟩ = some (.int .i64 (f kk)) ∧ w'.cell? ⟨bb, ob + kk, none⟩ = some (.int .i64 (g kk))) (by kernel_rfl) ?_ (fun hHeld => ?_)
          · exact ⟨KK.drew.2.1.cell, KK.drew.old HBa HCa, KK.drew.old HBb HCb⟩
          replace KK := KK.drew
          refine wpAnyH_take (i := 0) (v := ?_) (by simp only [List.getElem?_toArray, List.getElem?_cons_zero]; rfl) (by kernel_rfl) (by kernel_rfl) (by kernel_rfl) (by intro _ _ _ h; exact h) (Or.inl ⟨by rfl, ?_⟩) (by assumption) ?_
          rotate_left
          · (intro w hSw; (try dsimp only at hSw); go_simp) <;> with_reducible rfl
          try simp only [Act.put, List.setIfInBounds_toArray, List.set_cons_zero, List.set_cons_succ]
          refine wpAnyH_take (i := 1) (v := ?_) (by simp only [List.getElem?_toArray, List.getElem?_cons_succ, List.getElem?_cons_zero]; rfl) (by kernel_rfl) (by kernel_rfl) (by kernel_rfl) (by intro _ _ _ h; exact h) (Or.inl ⟨by rfl, ?_⟩) (by assumption) ?_
          rotate_left
          · (intro w hSw; (try dsimp only at hSw); go_simp) <;> with_reducible rfl
          try simp only [Act.put, List.setIfInBounds_toArray, List.set_cons_zero, List.set_cons_succ]
          refine wpAnyH_take (i := 2) (v := ?_) (by simp only [List.getElem?_toArray, List.getElem?_cons_succ, List.getElem?_cons_zero]; rfl) (by kernel_rfl) (by kernel_rfl) (by kernel_rfl) (by intro _ _ _ h; exact h) (Or.inl ⟨by rfl, ?_⟩) (by assumption) ?_
          rotate_left
          · (intro w hSw; (try dsimp only at hSw); go_simp) <;> with_reducible rfl
          try simp only [Act.put, List.setIfInBounds_toArray, List.set_cons_zero, List.set_cons_succ]
          refine wpAnyH_take (i := 3) (v := ?_) (by simp only [List.getElem?_toArray, List.getElem?_cons_succ, List.getElem?_cons_zero]; rfl) (by kernel_rfl) (by kernel_rfl) (by kernel_rfl) (by intro _ _ _ h; exact h) (Or.inl ⟨by rfl, ?_⟩) (by assumption) ?_
          rotate_left
          · (intro w hSw; (try dsimp only at hSw); go_simp) <;> with_reducible rfl
          try simp only [Act.put, List.setIfInBounds_toArray, List.set_cons_zero, List.set_cons_succ]
          refine wpAnyH_take (i := 4) (v := ?_) (by simp only [List.getElem?_toArray, List.getElem?_cons_succ, List.getElem?_cons_zero]; rfl) (by kernel_rfl) (by kernel_rfl) (by kernel_rfl) (by intro _ _ _ h; exact h) (Or.inl ⟨by rfl, ?_⟩) (by assumption) ?_
          rotate_left
          · (intro w hSw; (try dsimp only at hSw); go_simp) <;> with_reducible rfl
          try simp only [Act.put, List.setIfInBounds_toArray, List.set_cons_zero, List.set_cons_succ]
          refine wpAnyH_ready (rs := [5]) (by kernel_rfl) (by simp) ?_
          refine AllReadyH.cons (by simp only [List.getElem?_toArray, List.getElem?_cons_succ, List.getElem?_cons_zero]; rfl) (fun K hK => ?_) AllReadyH.nil
          go_simp
          go_at_call 39
          (with_reducible refine (IX.out _).mono ?_)
          rintro e wz ⟨rfl, hbz⟩
          replace KK := KK.call hbz
          clear hbz
          go_wp2_with fail
          refine hK.out _ _ ?_ (fun hHeld => ?_)
          · exact ⟨KK.2.1.cell, KK.old HBa HCa, KK.old HBb HCb⟩
          clear hK K
          try simp only [Act.put, List.setIfInBounds_toArray, List.set_cons_zero, List.set_cons_succ]
          refine wpAnyH_take (i := 6) (v := ?_) (by simp only [List.getElem?_toArray, List.getElem?_cons_succ, List.getElem?_cons_zero]; rfl) (by kernel_rfl) (by kernel_rfl) (by kernel_rfl) (by intro _ _ _ h; exact h) (Or.inl ⟨by rfl, ?_⟩) (by assumption) ?_
          rotate_left
          · (intro w hSw; (try dsimp only at hSw); go_simp) <;> with_reducible rfl
          try simp only [Act.put, List.setIfInBounds_toArray, List.set_cons_zero, List.set_cons_succ]
          refine wpAnyH_take (i := 7) (v := ?_) (by simp only [List.getElem?_toArray, List.getElem?_cons_succ, List.getElem?_cons_zero]; rfl) (by kernel_rfl) (by kernel_rfl) (by kernel_rfl) (by intro _ _ _ h; exact h) (Or.inl ⟨by rfl, ?_⟩) (by assumption) ?_
          rotate_left
          · (intro w hSw; (try dsimp only at hSw); go_simp) <;> with_reducible rfl
          try simp only [Act.put, List.setIfInBounds_toArray, List.set_cons_zero, List.set_cons_succ]
          refine wpAnyH_take (i := 8) (v := ?_) (by simp only [List.getElem?_toArray, List.getElem?_cons_succ, List.getElem?_cons_zero]; rfl) (by kernel_rfl) (by kernel_rfl) (by kernel_rfl) (by intro _ _ _ h; exact h) (Or.inl ⟨by rfl, ?_⟩) (by assumption) ?_
          rotate_left
          · (intro w hSw; (try dsimp only at hSw); go_simp) <;> with_reducible rfl
          try simp only [Act.put, List.setIfInBounds_toArray, List.set_cons_zero, List.set_cons_succ]
          refine wpAnyH_take (i := 9) (v := ?_) (by simp only [List.getElem?_toArray, List.getElem?_cons_succ, List.getElem?_cons_zero]; rfl) (by kernel_rfl) (by kernel_rfl) (by kernel_rfl) (by intro _ _ _ h; exact h) (Or.inl ⟨by rfl, ?_⟩) (by assumption) ?_
          rotate_left
          · (intro w hSw; (try dsimp only at hSw); go_simp) <;> with_reducible rfl
          try simp only [Act.put, List.setIfInBounds_toArray, List.set_cons_zero, List.set_cons_succ]
          refine wpAnyH_take (i := 10) (v := ?_) (by simp only [List.getElem?_toArray, List.getElem?_cons_succ, List.getElem?_cons_zero]; rfl) (by kernel_rfl) (by kernel_rfl) (by kernel_rfl) (by intro _ _ _ h; exact h) (Or.inl ⟨by rfl, ?_⟩) (by assumption) ?_
          rotate_left
          · (intro w hSw; (try dsimp only at hSw); go_simp) <;> with_reducible rfl
          try simp only [Act.put, List.setIfInBounds_toArray, List.set_cons_zero, List.set_cons_succ]
          refine wpAnyH_take (i := 11) (v := ?_) (by simp only [List.getElem?_toArray, List.getElem?_cons_succ, List.getElem?_cons_zero]; rfl) (by kernel_rfl) (by kernel_rfl) (by kernel_rfl) (by intro _ _ _ h; exact h) (Or.inl ⟨by rfl, ?_⟩) (by assumption) ?_
          rotate_left
          · (intro w hSw; (try dsimp only at hSw); go_simp) <;> with_reducible rfl
          try simp only [Act.put, List.setIfInBounds_toArray, List.set_cons_zero, List.set_cons_succ]
          refine wpAnyH_take (i := 12) (v := ?_) (by simp only [List.getElem?_toArray, List.getElem?_cons_succ, List.getElem?_cons_zero]; rfl) (by kernel_rfl) (by kernel_rfl) (by kernel_rfl) (by intro _ _ _ h; exact h) (Or.inl ⟨by rfl, ?_⟩) (by assumption) ?_
          rotate_left
          · (intro w hSw; (try dsimp only at hSw); go_simp) <;> with_reducible rfl
          try simp only [Act.put, List.setIfInBounds_toArray, List.set_cons_zero, List.set_cons_succ]
          refine wpAnyH_ready (rs := [13]) (by kernel_rfl) (by simp) ?_
          refine AllReadyH.cons (by simp only [List.getElem?_toArray, List.getElem?_cons_succ, List.getElem?_cons_zero]; rfl) (fun K hK => ?_) AllReadyH.nil
          go_simp
          go_at_call 39
          (with_reducible refine (IY.out _).mono ?_)
          rintro e wz ⟨rfl, hbz⟩
          replace KK := KK.call hbz
          clear hbz
          go_wp2_with fail
          refine hK.out _ _ ?_ (fun hHeld => ?_)
          · exact ⟨KK.2.1.cell, KK.old HBa HCa, KK.old HBb HCb⟩
          clear hK K
          try simp only [Act.put, List.setIfInBounds_toArray, List.set_cons_zero, List.set_cons_succ]
          refine wpAnyH_take (i := 14) (v := ?_) (by simp only [List.getElem?_toArray, List.getElem?_cons_succ, List.getElem?_cons_zero]; rfl) (by kernel_rfl) (by kernel_rfl) (by kernel_rfl) (by intro _ _ _ h; exact h) (Or.inl ⟨by rfl, ?_⟩) (by assumption) ?_
          rotate_left
          · (intro w hSw; (try dsimp only at hSw); go_simp) <;> with_reducible rfl
          try simp only [Act.put, List.setIfInBounds_toArray, List.set_cons_zero, List.set_cons_succ]
          refine wpAnyH_take (i := 15) (v := ?_) (by simp only [List.getElem?_toArray, List.getElem?_cons_succ, List.getElem?_cons_zero]; rfl) (by kernel_rfl) (by kernel_rfl) (by kernel_rfl) (by intro _ _ _ h; exact h) (Or.inl ⟨by rfl, ?_⟩) (by assumption) ?_
          rotate_left
          · (intro w hSw; (try dsimp only at hSw); go_simp) <;> with_reducible rfl
          try simp only [Act.put, List.setIfInBounds_toArray, List.set_cons_zero, List.set_cons_succ]
          refine wpAnyH_done (by kernel_rfl) ?_ _
          obtain ⟨cF, fF, zF⟩ := And.intro KK.2.1.cell (And.intro KK.2.1.frozen KK.2.1.lt)
          go_wp2_with fail
          refine bodyPost_ret (v := .tuple #[.int .i64 0, .bool false, .iface 67 (.int .i64 3)]) ?_ rfl ⟨by rw [BD.out], ?_⟩
          · simp [results, Try.results15, go_sem]
          · exact KK.below
        · rw [h2] at IY
          obtain ⟨p, hp⟩ : ∃ p, f kk * g kk = p := ⟨_, rfl⟩
          have hpb := mul_le (isW_le hA hB h1) (isW_le hA hB h2)
          rw [hp] at hpb
          have hw := Lib.hid (show IntKind.i64.wrap (f kk * g kk) = p by rw [hp]; exact IntWalk.i64_in _ (by omega))
          have AW : Hid (allW b f g (kk + 1) = true) := Lib.hid (by rw [allW, HAll.out, h1, h2]; rfl)
          have hs : sumP f g (kk + 1) = sumP f g kk + p := by rw [sumP, hp]
          obtain ⟨H', hH'⟩ : ∃ H', sumP f g (kk + 1) / 4294967296 = H' := ⟨_, rfl⟩
          obtain ⟨L', hL'⟩ : ∃ L', sumP f g (kk + 1) % 4294967296 = L' := ⟨_, rfl⟩
          have WAD := wadd_any (sumP f g kk / 4294967296) (sumP f g kk % 4294967296) p (by omega) (by omega) (by omega)
          rw [(wide_step (sumP f g kk) p).1, (wide_step (sumP f g kk) p).2, ← hs, hH', hL'] at WAD
          obtain ⟨H, hH⟩ : ∃ H, sumP f g kk / 4294967296 = H := ⟨_, rfl⟩
          obtain ⟨L, hL⟩ : ∃ L, sumP f g kk % 4294967296 = L := ⟨_, rfl⟩
          rw [hH, hL] at KK WAD
          replace WAD := Lib.hid WAD
          replace hH' := Lib.hid hH'
          replace hL' := Lib.hid hL'
          clear h1 h2 hp hH hL SBk hs hpb
          go_wp2_with fail
          refine wp_region_held_drew (S := fun w' => (∀ i, w'.cell? ⟨w.heap.size, i, none⟩ = (#[.int .i64 b, .int .i64 s] : Array Value)[i]?) ∧ w'.cell? ⟨ba, oa + kk, none⟩ = some (.int .i64 (f kk)) ∧ w'.cell? ⟨bb, ob + kk, none⟩ = some (.int .i64 (g kk))) (by kernel_rfl) ?_ (fun hHeld => ?_)
          · exact ⟨KK.drew.2.1.cell, KK.drew.old HBa HCa, KK.drew.old HBb HCb⟩
          replace KK := KK.drew
          refine wpAnyH_take (i := 0) (v := ?_) (by simp only [List.getElem?_toArray, List.getElem?_cons_zero]; rfl) (by kernel_rfl) (by kernel_rfl) (by kernel_rfl) (by intro _ _ _ h; exact h) (Or.inl ⟨by rfl, ?_⟩) (by assumption) ?_
          rotate_left
          · (intro w hSw; (try dsimp only at hSw); go_simp) <;> with_reducible rfl
          try simp only [Act.put, List.setIfInBounds_toArray, List.set_cons_zero, List.set_cons_succ]
          refine wpAnyH_take (i := 1) (v := ?_) (by simp only [List.getElem?_toArray, List.getElem?_cons_succ, List.getElem?_cons_zero]; rfl) (by kernel_rfl) (by kernel_rfl) (by kernel_rfl) (by intro _ _ _ h; exact h) (Or.inl ⟨by rfl, ?_⟩) (by assumption) ?_
          rotate_left
          · (intro w hSw; (try dsimp only at hSw); go_simp) <;> with_reducible rfl
          try simp only [Act.put, List.setIfInBounds_toArray, List.set_cons_zero, List.set_cons_succ]
          refine wpAnyH_take (i := 2) (v := ?_) (by simp only [List.getElem?_toArray, List.getElem?_cons_succ, List.getElem?_cons_zero]; rfl) (by kernel_rfl) (by kernel_rfl) (by kernel_rfl) (by intro _ _ _ h; exact h) (Or.inl ⟨by rfl, ?_⟩) (by assumption) ?_
          rotate_left
          · (intro w hSw; (try dsimp only at hSw); go_simp) <;> with_reducible rfl
          try simp only [Act.put, List.setIfInBounds_toArray, List.set_cons_zero, List.set_cons_succ]
          refine wpAnyH_take (i := 3) (v := ?_) (by simp only [List.getElem?_toArray, List.getElem?_cons_succ, List.getElem?_cons_zero]; rfl) (by kernel_rfl) (by kernel_rfl) (by kernel_rfl) (by intro _ _ _ h; exact h) (Or.inl ⟨by rfl, ?_⟩) (by assumption) ?_
          rotate_left
          · (intro w hSw; (try dsimp only at hSw); go_simp) <;> with_reducible rfl
          try simp only [Act.put, List.setIfInBounds_toArray, List.set_cons_zero, List.set_cons_succ]
          refine wpAnyH_take (i := 4) (v := ?_) (by simp only [List.getElem?_toArray, List.getElem?_cons_succ, List.getElem?_cons_zero]; rfl) (by kernel_rfl) (by kernel_rfl) (by kernel_rfl) (by intro _ _ _ h; exact h) (Or.inl ⟨by rfl, ?_⟩) (by assumption) ?_
          rotate_left
          · (intro w hSw; (try dsimp only at hSw); go_simp) <;> with_reducible rfl
          try simp only [Act.put, List.setIfInBounds_toArray, List.set_cons_zero, List.set_cons_succ]
          refine wpAnyH_ready (rs := [5]) (by kernel_rfl) (by simp) ?_
          refine AllReadyH.cons (by simp only [List.getElem?_toArray, List.getElem?_cons_succ, List.getElem?_cons_zero]; rfl) (fun K hK => ?_) AllReadyH.nil
          go_simp
          go_at_call 39
          (with_reducible refine (IX.out _).mono ?_)
          rintro e wz ⟨rfl, hbz⟩
          replace KK := KK.call hbz
          clear hbz
          go_wp2_with fail
          refine hK.out _ _ ?_ (fun hHeld => ?_)
          · exact ⟨KK.2.1.cell, KK.old HBa HCa, KK.old HBb HCb⟩
          clear hK K
          try simp only [Act.put, List.setIfInBounds_toArray, List.set_cons_zero, List.set_cons_succ]
          refine wpAnyH_take (i := 6) (v := ?_) (by simp only [List.getElem?_toArray, List.getElem?_cons_succ, List.getElem?_cons_zero]; rfl) (by kernel_rfl) (by kernel_rfl) (by kernel_rfl) (by intro _ _ _ h; exact h) (Or.inl ⟨by rfl, ?_⟩) (by assumption) ?_
          rotate_left
          · (intro w hSw; (try dsimp only at hSw); go_simp) <;> with_reducible rfl
          try simp only [Act.put, List.setIfInBounds_toArray, List.set_cons_zero, List.set_cons_succ]
          refine wpAnyH_take (i := 7) (v := ?_) (by simp only [List.getElem?_toArray, List.getElem?_cons_succ, List.getElem?_cons_zero]; rfl) (by kernel_rfl) (by kernel_rfl) (by kernel_rfl) (by intro _ _ _ h; exact h) (Or.inl ⟨by rfl, ?_⟩) (by assumption) ?_
          rotate_left
          · (intro w hSw; (try dsimp only at hSw); go_simp) <;> with_reducible rfl
          try simp only [Act.put, List.setIfInBounds_toArray, List.set_cons_zero, List.set_cons_succ]
          refine wpAnyH_take (i := 8) (v := ?_) (by simp only [List.getElem?_toArray, List.getElem?_cons_succ, List.getElem?_cons_zero]; rfl) (by kernel_rfl) (by kernel_rfl) (by kernel_rfl) (by intro _ _ _ h; exact h) (Or.inl ⟨by rfl, ?_⟩) (by assumption) ?_
          rotate_left
          · (intro w hSw; (try dsimp only at hSw); go_simp) <;> with_reducible rfl
          try simp only [Act.put, List.setIfInBounds_toArray, List.set_cons_zero, List.set_cons_succ]
          refine wpAnyH_take (i := 9) (v := ?_) (by simp only [List.getElem?_toArray, List.getElem?_cons_succ, List.getElem?_cons_zero]; rfl) (by kernel_rfl) (by kernel_rfl) (by kernel_rfl) (by intro _ _ _ h; exact h) (Or.inl ⟨by rfl, ?_⟩) (by assumption) ?_
          rotate_left
          · (intro w hSw; (try dsimp only at hSw); go_simp) <;> with_reducible rfl
          try simp only [Act.put, List.setIfInBounds_toArray, List.set_cons_zero, List.set_cons_succ]
          refine wpAnyH_take (i := 10) (v := ?_) (by simp only [List.getElem?_toArray, List.getElem?_cons_succ, List.getElem?_cons_zero]; rfl) (by kernel_rfl) (by kernel_rfl) (by kernel_rfl) (by intro _ _ _ h; exact h) (Or.inl ⟨by rfl, ?_⟩) (by assumption) ?_
          rotate_left
          · (intro w hSw; (try dsimp only at hSw); go_simp) <;> with_reducible rfl
          try simp only [Act.put, List.setIfInBounds_toArray, List.set_cons_zero, List.set_cons_succ]
          refine wpAnyH_take (i := 11) (v := ?_) (by simp only [List.getElem?_toArray, List.getElem?_cons_succ, List.getElem?_cons_zero]; rfl) (by kernel_rfl) (by kernel_rfl) (by kernel_rfl) (by intro _ _ _ h; exact h) (Or.inl ⟨by rfl, ?_⟩) (by assumption) ?_
          rotate_left
          · (intro w hSw; (try dsimp only at hSw); go_simp) <;> with_reducible rfl
          try simp only [Act.put, List.setIfInBounds_toArray, List.set_cons_zero, List.set_cons_succ]
          refine wpAnyH_take (i := 12) (v := ?_) (by simp only [List.getElem?_toArray, List.getElem?_cons_succ, List.getElem?_cons_zero]; rfl) (by kernel_rfl) (by kernel_rfl) (by kernel_rfl) (by intro _ _ _ h; exact h) (Or.inl ⟨by rfl, ?_⟩) (by assumption) ?_
          rotate_left
          · (intro w hSw; (try dsimp only at hSw); go_simp) <;> with_reducible rfl
          try simp only [Act.put, List.setIfInBounds_toArray, List.set_cons_zero, List.set_cons_succ]
          refine wpAnyH_ready (rs := [13]) (by kernel_rfl) (by simp) ?_
          refine AllReadyH.cons (by simp only [List.getElem?_toArray, List.getElem?_cons_succ, List.getElem?_cons_zero]; rfl) (fun K hK => ?_) AllReadyH.nil
          go_simp
          go_at_call 39
          (with_reducible refine (IY.out _).mono ?_)
          rintro e wz ⟨rfl, hbz⟩
          replace KK := KK.call hbz
          clear hbz
          go_wp2_with fail
          refine hK.out _ _ ?_ (fun hHeld => ?_)
          · exact ⟨KK.2.1.cell, KK.old HBa HCa, KK.old HBb HCb⟩
          clear hK K
          try simp only [Act.put, List.setIfInBounds_toArray, List.set_cons_zero, List.set_cons_succ]
          refine wpAnyH_take (i := 14) (v := ?_) (by simp only [List.getElem?_toArray, List.getElem?_cons_succ, List.getElem?_cons_zero]; rfl) (by kernel_rfl) (by kernel_rfl) (by kernel_rfl) (by intro _ _ _ h; exact h) (Or.inl ⟨by rfl, ?_⟩) (by assumption) ?_
          rotate_left
          · (intro w hSw; (try dsimp only at hSw); go_simp) <;> with_reducible rfl
          try simp only [Act.put, List.setIfInBounds_toArray, List.set_cons_zero, List.set_cons_succ]
          refine wpAnyH_take (i := 15) (v := ?_) (by simp only [List.getElem?_toArray, List.getElem?_cons_succ, List.getElem?_cons_zero]; rfl) (by kernel_rfl) (by kernel_rfl) (by kernel_rfl) (by intro _ _ _ h; exact h) (Or.inl ⟨by rfl, ?_⟩) (by assumption) ?_
          rotate_left
          · (intro w hSw; (try dsimp only at hSw); go_simp) <;> with_reducible rfl
          try simp only [Act.put, List.setIfInBounds_toArray, List.set_cons_zero, List.set_cons_succ]
          refine wpAnyH_done (by kernel_rfl) ?_ _
          obtain ⟨cF, fF, zF⟩ := And.intro KK.2.1.cell (And.intro KK.2.1.frozen KK.2.1.lt)
          obtain ⟨cS, fS, zS⟩ := And.intro KK.1.cell (And.intro KK.1.frozen KK.1.lt)
          have ca1 := KK.old HBa HCa
          have cb1 := KK.old HBb HCb
          go_wp2_with fail
          refine wp_region_still_tail 10 (by kernel_rfl) (by kernel_rfl) ?_
          simp only [List.take_succ_cons, List.take_zero, List.drop_succ_cons, List.drop_zero]
          have hw1 := hw.out
          still_step
          still_step
          still_step
          still_step
          still_step
          still_step
          still_step
          still_step
          still_step
          still_step
          refine wpStill_nil ?_
          change wpList _ _ _ _ _ wz.drew
          have KD := KK.drew
          generalize wz.drew = wd at KD ⊢
          clear cF fF zF cS fS zS ca1 cb1 hw1
          go_wp2_with fail
          (with_reducible refine (WAD.out _).mono ?_)
          rintro e w5 ⟨rfl, hb5⟩
          have K5 := KD.call hb5
          obtain ⟨cS, fS, zS⟩ := And.intro K5.1.cell (And.intro K5.1.frozen K5.1.lt)
          go_wp2_with fail
          exact ⟨⟨kk + 1, by go_num, by omega, AW.out, by rw [hH'.out, hL'.out]; exact K5.put2 (by omega) (by simp; omega) _ _⟩, by simp [intOf]; omega⟩
    · have e0 : kk = k := by omega
      subst e0
      have g1 : decide ((kk : Int) < (kk : Int)) = false := decide_eq_false (by omega)
      have g2 : decide (kk < kk) = false := decide_eq_false (by omega)
      have YV := YB.out HAll.out
      obtain ⟨H, hH⟩ : ∃ H, sumP f g kk / 4294967296 = H := ⟨_, rfl⟩
      obtain ⟨L, hL⟩ : ∃ L, sumP f g kk % 4294967296 = L := ⟨_, rfl⟩
      rw [hH, hL] at KK YV
      have WR := WRA.out H L (by omega) (by omega)
      obtain ⟨z, hz⟩ : ∃ z, wideR H L n m = z := ⟨_, rfl⟩
      rw [hz] at WR YV
      replace WR := Lib.hid WR
      replace YV := Lib.hid YV
      have SA := Lib.hid (SAT.out z)
      clear hH hL hz SBk
      obtain ⟨cF, fF, zF⟩ := And.intro KK.2.1.cell (And.intro KK.2.1.frozen KK.2.1.lt)
      obtain ⟨cS, fS, zS⟩ := And.intro KK.1.cell (And.intro KK.1.frozen KK.1.lt)
      go_wp2_with fail
      have KD := KK.drew
      have dF := KD.2.1.cell
      have dS := KD.1.cell
      go_region_held3 (fun w' => (∀ i, w'.cell? ⟨w.heap.size, i, none⟩ = (#[.int .i64 b, .int .i64 s] : Array Value)[i]?) ∧ (∀ i, w'.cell? ⟨w1.heap.size, i, none⟩ = (#[.int .i64 H, .int .i64 L] : Array Value)[i]?))
        (first
          | with_reducible exact ⟨dF, dS⟩
          | with_reducible exact ⟨eF, eS⟩
          | with_reducible exact ⟨gF, gS⟩
          | fail)
        (first
          | (go_at_call 42; (with_reducible refine (WR.out _).mono ?_); rintro e w6 ⟨rfl, hb6⟩; have KE := KD.call hb6; have eF := KE.2.1.cell; have eS := KE.1.cell)
          | (go_at_call 41; (with_reducible refine (SA.out _).mono ?_); rintro e w7 ⟨rfl, hb7⟩; have KG := KE.call hb7; have gF := KG.2.1.cell; have gS := KG.1.cell))
      go_wp2_with fail
      refine bodyPost_ret (v := .tuple #[.int .i64 (satV b z), .bool (satB b z), .nilIface]) ?_ rfl ⟨by rw [YV.out], ?_⟩
      · simp [results, Try.results15, go_sem]
      · exact KG.below

end Go.Proofs.Ythldpmfobhemkaa
