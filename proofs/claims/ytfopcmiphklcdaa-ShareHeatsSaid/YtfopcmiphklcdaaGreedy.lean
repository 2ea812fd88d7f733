/- The greedy in plain Lean. -/
import Derived.Test.YtfopcmiphklcdaaSums
namespace Go.Proofs.Ytfopcmiphklcdaa

/-- The drive that gets the next unit, of the first i; -1: none. -/
def pickF (L : Nat → Dr) (o : Nat → Int) : Nat → Int
  | 0 => -1
  | i + 1 => if o i < capD (L i) ∧ (pickF L o i < 0 ∨ (o i + 1) * (L (pickF L o i).toNat).d < (o (pickF L o i).toNat + 1) * (L i).d) then (i : Int) else pickF L o i
def upd (o : Nat → Int) (p : Nat) (v : Int) : Nat → Int := fun i => if i = p then v else o i
def stepF (k : Nat) (L : Nat → Dr) (o : Nat → Int) : Nat → Int := if pickF L o k < 0 then o else upd o (pickF L o k).toNat (o (pickF L o k).toNat + 1)
def gv (k : Nat) (L : Nat → Dr) (o : Nat → Int) : Nat → (Nat → Int)
  | 0 => o
  | n + 1 => stepF k L (gv k L o n)

theorem trans_lt {A B C x y z : Int} (hx : 0 < x) (hy : 0 < y) (hz : 0 < z) (h1 : A * y < B * x) (h2 : B * z ≤ C * y) : A * z < C * x := by
  have a := Int.mul_lt_mul_of_pos_right h1 hz
  have b := Int.mul_le_mul_of_nonneg_right h2 (Int.le_of_lt hx)
  have e1 : A * y * z = A * z * y := by rw [Int.mul_assoc, Int.mul_comm y z, ← Int.mul_assoc]
  have e2 : B * x * z = B * z * x := by rw [Int.mul_assoc, Int.mul_comm x z, ← Int.mul_assoc]
  have e3 : C * y * x = C * x * y := by rw [Int.mul_assoc, Int.mul_comm y x, ← Int.mul_assoc]
  have c : A * z * y < C * x * y := by omega
  exact Int.lt_of_mul_lt_mul_right c (Int.le_of_lt hy)

theorem pick_spec {L : Nat → Dr} {o : Nat → Int} : ∀ {k : Nat}, (∀ i, i < k → 0 < (L i).d) →
    (pickF L o k = -1 ∧ ∀ i, i < k → ¬ o i < capD (L i)) ∨ ∃ n : Nat, pickF L o k = n ∧ n < k ∧ o n < capD (L n) ∧ ∀ i, i < k → o i < capD (L i) → (o n + 1) * (L i).d < (o i + 1) * (L n).d ∨ ((o n + 1) * (L i).d = (o i + 1) * (L n).d ∧ n ≤ i)
  | 0, _ => .inl ⟨rfl, fun i hi => absurd hi (by omega)⟩
  | k + 1, hd => by
    have ih := pick_spec (L := L) (o := o) (k := k) (fun i hi => hd i (by omega))
    rw [pickF]
    by_cases hc : o k < capD (L k)
    · rcases ih with ⟨e, hn⟩ | ⟨n, e, hnk, hcn, hall⟩
      · rw [if_pos ⟨hc, .inl (by omega)⟩]
        refine .inr ⟨k, rfl, by omega, hc, fun i hi hci => ?_⟩
        by_cases e2 : i = k
        · subst e2; exact .inr ⟨rfl, Nat.le_refl _⟩
        · exact absurd hci (hn i (by omega))
      · rw [e, Int.toNat_natCast]
        by_cases ht : (o k + 1) * (L n).d < (o n + 1) * (L k).d
        · rw [if_pos ⟨hc, .inr ht⟩]
          refine .inr ⟨k, rfl, by omega, hc, fun i hi hci => ?_⟩
          by_cases e2 : i = k
          · subst e2; exact .inr ⟨rfl, Nat.le_refl _⟩
          · have q : (o n + 1) * (L i).d ≤ (o i + 1) * (L n).d := by
              rcases hall i (by omega) hci with q | q
              · omega
              · omega
            exact .inl (trans_lt (hd k (by omega)) (hd n (by omega)) (hd i (by omega)) ht q)
        · rw [if_neg (by omega)]
          refine .inr ⟨n, rfl, by omega, hcn, fun i hi hci => ?_⟩
          by_cases e2 : i = k
          · subst e2
            by_cases e3 : (o n + 1) * (L i).d = (o i + 1) * (L n).d
            · exact .inr ⟨e3, by omega⟩
            · exact .inl (by omega)
          · exact hall i (by omega) hci
    · rw [if_neg (fun x => hc x.1)]
      rcases ih with ⟨e, hn⟩ | ⟨n, e, hnk, hcn, hall⟩
      · refine .inl ⟨e, fun i hi => ?_⟩
        by_cases e2 : i = k
        · subst e2; exact hc
        · exact hn i (by omega)
      · refine .inr ⟨n, e, by omega, hcn, fun i hi hci => ?_⟩
        by_cases e2 : i = k
        · subst e2; exact absurd hci hc
        · exact hall i (by omega) hci
theorem pick_range {L : Nat → Dr} {o : Nat → Int} : ∀ {k : Nat}, pickF L o k = -1 ∨ ∃ n : Nat, pickF L o k = n ∧ n < k
  | 0 => .inl rfl
  | k + 1 => by
    rw [pickF]
    split
    · exact .inr ⟨k, rfl, by omega⟩
    · rcases pick_range (L := L) (o := o) (k := k) with h | ⟨n, h, h2⟩
      · exact .inl h
      · exact .inr ⟨n, h, by omega⟩
theorem pick_congr {L : Nat → Dr} {o o' : Nat → Int} : ∀ {k : Nat}, (∀ i, i < k → o i = o' i) → pickF L o k = pickF L o' k
  | 0, _ => rfl
  | k + 1, h => by
    have ih := pick_congr (L := L) (k := k) (fun i hi => h i (by omega))
    rw [pickF, pickF, ih, h k (by omega)]
    rcases pick_range (L := L) (o := o') (k := k) with e | ⟨n, e, hn⟩
    · rw [e]
      simp
    · rw [e, Int.toNat_natCast, h n (by omega)]
theorem step_congr {k : Nat} {L : Nat → Dr} {o o' : Nat → Int} (h : ∀ i, i < k → o i = o' i) : ∀ i, i < k → stepF k L o i = stepF k L o' i := by
  intro i hi
  unfold stepF
  rw [pick_congr h]
  split
  · exact h i hi
  · rename_i hp
    unfold upd
    rcases pick_range (L := L) (o := o') (k := k) with e | ⟨n, e, hn⟩
    · omega
    · rw [e, Int.toNat_natCast, h n hn, h i hi]
theorem gv_congr {k : Nat} {L : Nat → Dr} {o o' : Nat → Int} (h : ∀ i, i < k → o i = o' i) : ∀ n, ∀ i, i < k → gv k L o n i = gv k L o' n i
  | 0 => h
  | n + 1 => step_congr (gv_congr h n)
theorem gv_add (k : Nat) (L : Nat → Dr) (o : Nat → Int) (a : Nat) : ∀ b, gv k L o (a + b) = gv k L (gv k L o a) b
  | 0 => rfl
  | b + 1 => by
    rw [← Nat.add_assoc, gv, gv_add k L o a b, gv]
theorem gv_stop {k : Nat} {L : Nat → Dr} {o : Nat → Int} (h : pickF L o k < 0) : ∀ n, gv k L o n = o
  | 0 => rfl
  | n + 1 => by
    rw [gv, gv_stop h n]
    unfold stepF
    rw [if_pos h]
theorem gv_end {k : Nat} {L : Nat → Dr} {o : Nat → Int} {j T : Nat} (hj : j ≤ T) (h : pickF L (gv k L o j) k < 0) : gv k L o T = gv k L o j := by
  obtain ⟨m, rfl⟩ : ∃ m, T = j + m := ⟨T - j, by omega⟩
  rw [gv_add, gv_stop h]
theorem sm_congr {f g : Nat → Int} : ∀ {k : Nat}, (∀ i, i < k → f i = g i) → sm f k = sm g k
  | 0, _ => rfl
  | k + 1, h => by rw [sm, sm, sm_congr (fun i hi => h i (by omega)), h k (by omega)]
theorem sm_upd {f : Nat → Int} {p : Nat} {v : Int} : ∀ {k : Nat}, p < k → sm (upd f p v) k = sm f k + (v - f p)
  | 0, h => absurd h (by omega)
  | k + 1, h => by
    rw [sm, sm]
    by_cases e : p = k
    · subst e
      rw [sm_congr (f := upd f p v) (g := f) (fun i hi => by unfold upd; rw [if_neg (by omega)])]
      unfold upd
      rw [if_pos rfl]
      omega
    · rw [sm_upd (f := f) (v := v) (k := k) (by omega)]
      unfold upd
      rw [if_neg (by omega)]
      omega
theorem sm_le {f g : Nat → Int} : ∀ {k : Nat}, (∀ i, i < k → f i ≤ g i) → sm f k ≤ sm g k
  | 0, _ => Int.le_refl _
  | k + 1, h => by
    have a := sm_le (f := f) (g := g) (k := k) (fun i hi => h i (by omega))
    have b := h k (by omega)
    rw [sm, sm]
    omega
theorem sm_eq {f g : Nat → Int} : ∀ {k : Nat}, (∀ i, i < k → f i ≤ g i) → sm f k = sm g k → ∀ i, i < k → f i = g i
  | 0, _, _ => fun i hi => absurd hi (by omega)
  | k + 1, h, e => by
    have a := sm_le (f := f) (g := g) (k := k) (fun i hi => h i (by omega))
    have b := h k (by omega)
    rw [sm, sm] at e
    intro i hi
    by_cases e2 : i = k
    · subst e2; omega
    · exact sm_eq (k := k) (fun i hi => h i (by omega)) (by omega) i (by omega)
theorem sm_lt {f g : Nat → Int} : ∀ {k : Nat}, sm f k < sm g k → ∃ i, i < k ∧ f i < g i
  | 0, h => absurd h (by simp [sm])
  | k + 1, h => by
    rw [sm, sm] at h
    by_cases e : f k < g k
    · exact ⟨k, by omega, e⟩
    · obtain ⟨i, hi, h2⟩ := sm_lt (f := f) (g := g) (k := k) (by omega)
      exact ⟨i, by omega, h2⟩
/-- One unit more, as long as there is a drive below its cap. -/
theorem step_sum {k : Nat} {L : Nat → Dr} {o : Nat → Int} : (pickF L o k = -1 ∧ stepF k L o = o) ∨ ∃ n : Nat, pickF L o k = n ∧ n < k ∧ stepF k L o = upd o n (o n + 1) ∧ sm (stepF k L o) k = sm o k + 1 := by
  rcases pick_range (L := L) (o := o) (k := k) with e | ⟨n, e, hn⟩
  · refine .inl ⟨e, ?_⟩
    unfold stepF
    rw [if_pos (by omega)]
  · have s : stepF k L o = upd o n (o n + 1) := by
      unfold stepF
      rw [if_neg (by omega), e, Int.toNat_natCast]
    refine .inr ⟨n, e, hn, s, ?_⟩
    rw [s, sm_upd hn]
    omega
/-- The unit goes to a drive below its level, as long as there is one. -/
theorem pass_one {k : Nat} {L : Nat → Dr} {o : Nat → Int} {r : Int} (hok : okL k L) (h1 : ∀ i, i < k → (L i).a ≤ o i) (h2 : ∀ i, i < k → o i ≤ levD (L i) r) (h3 : sm o k < sm (fun i => levD (L i) r) k) :
    (∀ i, i < k → stepF k L o i ≤ levD (L i) r) ∧ sm (stepF k L o) k = sm o k + 1 := by
  obtain ⟨i, hi, hlt⟩ := sm_lt h3
  have oi := hok i hi
  have li := lev_bd oi r
  have di : 0 < (L i).d := by have := oi.2.2.1; omega
  have ri : o i + 1 ≤ r * (L i).d := by
    have a := h1 i hi
    have c := hlt
    simp only [levD] at c
    omega
  rcases pick_spec (L := L) (o := o) (k := k) (fun j hj => by have := (hok j hj).2.2.1; omega) with ⟨_, hn⟩ | ⟨n, e, hnk, hcn, hall⟩
  · exact absurd (Int.lt_of_lt_of_le hlt li.2.1) (hn i hi)
  · have s : stepF k L o = upd o n (o n + 1) := by
      unfold stepF
      rw [if_neg (by omega), e, Int.toNat_natCast]
    refine ⟨?_, by rw [s, sm_upd hnk]; omega⟩
    have on := hok n hnk
    have dn : 0 < (L n).d := by have := on.2.2.1; omega
    have q : (o n + 1) * (L i).d ≤ (o i + 1) * (L n).d := by
      rcases hall i hi (Int.lt_of_lt_of_le hlt li.2.1) with q | q
      · omega
      · omega
    have q2 : (o i + 1) * (L n).d ≤ r * (L i).d * (L n).d := Int.mul_le_mul_of_nonneg_right ri (Int.le_of_lt dn)
    have q3 : (o n + 1) * (L i).d ≤ r * (L n).d * (L i).d := by
      have : r * (L i).d * (L n).d = r * (L n).d * (L i).d := by rw [Int.mul_assoc, Int.mul_comm (L i).d, ← Int.mul_assoc]
      omega
    have q4 : o n + 1 ≤ r * (L n).d := Int.le_of_mul_le_mul_right q3 di
    intro j hj
    rw [s]
    unfold upd
    by_cases ej : j = n
    · subst ej
      rw [if_pos rfl]
      unfold levD
      omega
    · rw [if_neg ej]
      exact h2 j hj
theorem step_ge {k : Nat} {L : Nat → Dr} {o : Nat → Int} (i : Nat) : o i ≤ stepF k L o i := by
  unfold stepF
  split
  · exact Int.le_refl _
  · unfold upd
    split
    · rename_i e; subst e; omega
    · exact Int.le_refl _
theorem pass {k : Nat} {L : Nat → Dr} {r : Int} (hok : okL k L) : ∀ t : Nat, sm (fun i => (L i).a) k + (t : Int) ≤ sm (fun i => levD (L i) r) k →
    (∀ i, i < k → (L i).a ≤ gv k L (fun i => (L i).a) t i ∧ gv k L (fun i => (L i).a) t i ≤ levD (L i) r) ∧ sm (gv k L (fun i => (L i).a) t) k = sm (fun i => (L i).a) k + (t : Int)
  | 0, _ => ⟨fun i hi => ⟨Int.le_refl _, (lev_bd (hok i hi) r).1⟩, by simp [gv]⟩
  | t + 1, h => by
    have ih := pass (r := r) hok t (by push_cast at h; omega)
    have p := pass_one (r := r) hok (fun i hi => (ih.1 i hi).1) (fun i hi => (ih.1 i hi).2) (by rw [ih.2]; push_cast at h; omega)
    refine ⟨fun i hi => ⟨?_, p.1 i hi⟩, ?_⟩
    · exact Int.le_trans (ih.1 i hi).1 (step_ge i)
    · show sm (stepF k L _) k = _
      rw [p.2, ih.2]
      push_cast
      omega
/-- Whatever ratio's levels one begins at: what is divided is the same. -/
theorem greedy_same {k : Nat} {L : Nat → Dr} {r total : Int} (hok : okL k L) (h : sm (fun i => levD (L i) r) k ≤ total) : ∀ i, i < k →
    gv k L (fun i => levD (L i) r) (total - sm (fun i => levD (L i) r) k).toNat i = gv k L (fun i => (L i).a) (total - sm (fun i => (L i).a) k).toNat i := by
  have hl : sm (fun i => (L i).a) k ≤ sm (fun i => levD (L i) r) k := sm_le (fun i hi => (lev_bd (hok i hi) r).1)
  obtain ⟨T, hT⟩ : ∃ T : Nat, sm (fun i => levD (L i) r) k - sm (fun i => (L i).a) k = (T : Int) := ⟨(sm (fun i => levD (L i) r) k - sm (fun i => (L i).a) k).toNat, by omega⟩
  have p := pass (r := r) hok T (by omega)
  have e := sm_eq (fun i hi => (p.1 i hi).2) (by rw [p.2]; omega)
  intro i hi
  rw [show (total - sm (fun i => (L i).a) k).toNat = T + (total - sm (fun i => levD (L i) r) k).toNat by omega, gv_add]
  exact (gv_congr e _ i hi).symm
/-- What Divide gives. -/
def divF (total : Int) (k : Nat) (L : Nat → Dr) : Nat → Int := gv k L (fun i => (L i).a) (total - sm (fun i => (L i).a) k).toNat
end Go.Proofs.Ytfopcmiphklcdaa
