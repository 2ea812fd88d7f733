/- What ShareKept asks, in plain Lean. -/
import Derived.Test.YtfopcmiphklcdaaLaw7
namespace Go.Proofs.Ytfopcmiphklcdaa
open Go.RowKit

theorem drop_one {total : Int} {k : Nat} {L : Nat → Dr} {m : Nat} (ht : 0 ≤ total) (h : total < sK L (sg k L m) k) : ∃ n, n < k ∧ sg k L m n = true ∧ sg k L (m + 1) = updB (sg k L m) n false ∧ ∀ i, i < k → sg k L m i = true → (L n).d < (L i).d ∨ ((L n).d = (L i).d ∧ i ≤ n) := by
  obtain ⟨n, e, hn, hk⟩ := dr_some ht h
  refine ⟨n, hn, hk, ?_, ?_⟩
  · rw [sg, e, Int.toNat_natCast]
  · rcases dr_spec (L := L) (kp := sg k L m) (k := k) with ⟨e2, _⟩ | ⟨n2, e2, _, _, hall⟩
    · omega
    · have : n2 = n := by omega
      subst this
      exact hall
theorem drop_ord {total : Int} {k : Nat} {L : Nat → Dr} (ht : 0 ≤ total) : ∀ m : Nat, (∀ m', m' < m → total < sK L (sg k L m') k) → ∀ i j, i < k → j < k → sg k L m i = false → sg k L m j = true → (L i).d < (L j).d ∨ ((L i).d = (L j).d ∧ j < i)
  | 0, _ => fun i j _ _ hi _ => by cases hi
  | m + 1, h => by
    intro i j hi hj hki hkj
    obtain ⟨n, hn, hkn, e, hall⟩ := drop_one ht (h m (by omega))
    rw [e] at hki hkj
    unfold updB at hki hkj
    by_cases e1 : j = n
    · rw [if_pos e1] at hkj; cases hkj
    · rw [if_neg e1] at hkj
      by_cases e2 : i = n
      · subst e2
        rcases hall j hj hkj with q | ⟨q, q2⟩
        · exact .inl q
        · exact .inr ⟨q, by omega⟩
      · rw [if_neg e2] at hki
        exact drop_ord ht m (fun m' hm' => h m' (by omega)) i j hi hj hki hkj
/-- The last one that was dropped, of the first i; -1: none. -/
def lastF (L : Nat → Dr) (kp : Nat → Bool) : Nat → Int
  | 0 => -1
  | i + 1 => if kp i = false ∧ (lastF L kp i < 0 ∨ (L (lastF L kp i).toNat).d < (L i).d) then (i : Int) else lastF L kp i
theorem last_spec {L : Nat → Dr} {kp : Nat → Bool} : ∀ {k : Nat}, (lastF L kp k = -1 ∧ ∀ i, i < k → kp i = true) ∨ ∃ n : Nat, lastF L kp k = n ∧ n < k ∧ kp n = false ∧ ∀ i, i < k → kp i = false → (L i).d < (L n).d ∨ ((L i).d = (L n).d ∧ n ≤ i)
  | 0 => .inl ⟨rfl, fun i hi => absurd hi (by omega)⟩
  | k + 1 => by
    have ih := last_spec (L := L) (kp := kp) (k := k)
    rw [lastF]
    by_cases hc : kp k = false
    · rcases ih with ⟨e, hn⟩ | ⟨n, e, hnk, hcn, hall⟩
      · rw [if_pos ⟨hc, .inl (by omega)⟩]
        refine .inr ⟨k, rfl, by omega, hc, fun i hi hci => ?_⟩
        by_cases e2 : i = k
        · subst e2; exact .inr ⟨rfl, Nat.le_refl _⟩
        · have := hn i (by omega)
          rw [this] at hci
          cases hci
      · rw [e, Int.toNat_natCast]
        by_cases ht : (L n).d < (L k).d
        · rw [if_pos ⟨hc, .inr ht⟩]
          refine .inr ⟨k, rfl, by omega, hc, fun i hi hci => ?_⟩
          by_cases e2 : i = k
          · subst e2; exact .inr ⟨rfl, Nat.le_refl _⟩
          · rcases hall i (by omega) hci with q | ⟨q, _⟩
            · exact .inl (by omega)
            · exact .inl (by omega)
        · rw [if_neg (by omega)]
          refine .inr ⟨n, rfl, by omega, hcn, fun i hi hci => ?_⟩
          by_cases e2 : i = k
          · subst e2
            by_cases e3 : (L i).d = (L n).d
            · exact .inr ⟨e3, by omega⟩
            · exact .inl (by omega)
          · exact hall i (by omega) hci
    · rw [if_neg (fun x => hc x.1)]
      have hc2 : kp k = true := by simpa using hc
      rcases ih with ⟨e, hn⟩ | ⟨n, e, hnk, hcn, hall⟩
      · refine .inl ⟨e, fun i hi => ?_⟩
        by_cases e2 : i = k
        · subst e2; exact hc2
        · exact hn i (by omega)
      · refine .inr ⟨n, e, by omega, hcn, fun i hi hci => ?_⟩
        by_cases e2 : i = k
        · subst e2; exact absurd hci hc
        · exact hall i (by omega) hci
theorem last_range {L : Nat → Dr} {kp : Nat → Bool} {k : Nat} : lastF L kp k = -1 ∨ ∃ n : Nat, lastF L kp k = n ∧ n < k := by
  rcases last_spec (L := L) (kp := kp) (k := k) with ⟨e, _⟩ | ⟨n, e, h, _⟩
  · exact .inl e
  · exact .inr ⟨n, e, h⟩
/-- With the last one that was dropped the sum would not fit; and it is in order with the kept ones. -/
theorem last_over {total : Int} {k : Nat} {L : Nat → Dr} (ht : 0 ≤ total) {m : Nat} (h : ∀ m', m' < m → total < sK L (sg k L m') k) {n : Nat} (e : lastF L (sg k L m) k = n) : n < k ∧ total < sK L (sg k L m) k + (L n).a ∧ ∀ j, j < k → sg k L m j = true → (L n).d < (L j).d ∨ ((L n).d = (L j).d ∧ j < n) := by
  rcases last_spec (L := L) (kp := sg k L m) (k := k) with ⟨e2, _⟩ | ⟨r, e2, hr, hkr, hall⟩
  · omega
  · have : r = n := by omega
    subst this
    refine ⟨hr, ?_, fun j hj hkj => drop_ord ht m h r j hr hj hkr hkj⟩
    cases m with
    | zero => cases hkr
    | succ m =>
      obtain ⟨q, hq, hkq, eq, _⟩ := drop_one ht (h m (by omega))
      have hd := sK_drop (L := L) hq hkq
      rw [← eq] at hd
      have hqm : sg k L (m + 1) q = false := by rw [eq]; unfold updB; rw [if_pos rfl]
      have : r = q := by
        by_cases er : r = q
        · exact er
        · rw [eq] at hkr
          unfold updB at hkr
          rw [if_neg er] at hkr
          have o1 := drop_ord ht m (fun m' hm' => h m' (by omega)) r q hr hq hkr hkq
          have o2 := hall q hq hqm
          omega
      subst this
      have := h m (by omega)
      omega
/-- The kept drives, in order; their cells. -/
def KF (L : Nat → Dr) (kp : Nat → Bool) : Nat → (Nat → Dr)
  | 0 => fun _ => ⟨0, 0, 0, 0⟩
  | j + 1 => if kp j = true then (fun i => if i = cnt kp j then L j else KF L kp j i) else KF L kp j
def XS (L : Nat → Dr) (kp : Nat → Bool) : Nat → List Value
  | 0 => []
  | j + 1 => if kp j = true then XS L kp j ++ [.int .i64 (L j).a, .int .i64 (L j).b, .int .i64 (L j).c, .int .i64 (L j).d] else XS L kp j
theorem XS_len (L : Nat → Dr) (kp : Nat → Bool) : ∀ j, (XS L kp j).length = cnt kp j * 4
  | 0 => rfl
  | j + 1 => by
    rw [XS, cnt]
    split
    · rw [List.length_append, XS_len L kp j]
      simp
      omega
    · rw [XS_len L kp j]
      simp
theorem XS_at (L : Nat → Dr) (kp : Nat → Bool) : ∀ j, ∀ i, i < cnt kp j → ∀ t, t < 4 → (XS L kp j)[i * 4 + t]? = (vD (KF L kp j i))[t]?
  | 0 => fun i hi => absurd hi (by simp [cnt])
  | j + 1 => by
    intro i hi t ht
    rw [XS, KF]
    rw [cnt] at hi
    by_cases hk : kp j = true
    · rw [if_pos hk, if_pos hk]
      rw [if_pos hk] at hi
      have hl := XS_len L kp j
      by_cases e : i = cnt kp j
      · subst e
        rw [List.getElem?_append_right (by omega), hl, show cnt kp j * 4 + t - cnt kp j * 4 = t by omega]
        simp only [if_true]
        match t, ht with
        | 0, _ => rfl
        | 1, _ => rfl
        | 2, _ => rfl
        | 3, _ => rfl
      · simp only [if_neg e]
        rw [List.getElem?_append_left (by omega)]
        exact XS_at L kp j i (by omega) t ht
    · rw [if_neg hk, if_neg hk]
      rw [if_neg hk] at hi
      exact XS_at L kp j i (by omega) t ht
theorem KF_ok {L : Nat → Dr} {kp : Nat → Bool} : ∀ {j : Nat}, okL j L → okL (cnt kp j) (KF L kp j)
  | 0, _ => fun i hi => absurd hi (by simp [cnt])
  | j + 1, h => by
    intro i hi
    have ih := KF_ok (L := L) (kp := kp) (j := j) (fun q hq => h q (by omega))
    rw [KF]
    rw [cnt] at hi
    by_cases hk : kp j = true
    · rw [if_pos hk]
      rw [if_pos hk] at hi
      by_cases e : i = cnt kp j
      · simp only [if_pos e]
        exact h j (by omega)
      · simp only [if_neg e]
        exact ih i (by omega)
    · rw [if_neg hk]
      rw [if_neg hk] at hi
      exact ih i (by omega)
theorem KF_sum (L : Nat → Dr) (kp : Nat → Bool) : ∀ j, sm (fun i => (KF L kp j i).a) (cnt kp j) = sK L kp j
  | 0 => rfl
  | j + 1 => by
    have ih := KF_sum L kp j
    rw [KF, cnt]
    unfold sK at ih ⊢
    rw [sm]
    by_cases hk : kp j = true
    · rw [if_pos hk, if_pos hk, if_pos hk, sm]
      rw [← ih]
      simp only [if_true]
      rw [sm_congr (g := fun i => (KF L kp j i).a) (fun i hi => by rw [if_neg (by omega)])]
    · rw [if_neg hk, if_neg hk, if_neg hk, Nat.add_zero, ih]
      simp
theorem cnt_le (kp : Nat → Bool) : ∀ j, cnt kp j ≤ j
  | 0 => Nat.le_refl _
  | j + 1 => by
    have := cnt_le kp j
    rw [cnt]
    split <;> omega
/-- A row of structs of the call's own, as a slice that is read. -/
theorem own_row_of {W : World} {Bs : Nat} {v : Value} {L : Nat → Dr} {kp : Nat → Bool} {k : Nat} (h : W.ownsRow Bs 40 4 v (cnt kp k) (XS L kp k)) : ∃ O g c, v = .slice O (cnt kp k) c ∧ Row W O (cnt kp k) g 0 (KF L kp k) := by
  rcases h.2 with ⟨rfl, e⟩ | ⟨g, cap, cur, rfl, hb, hg, _, _, _, _⟩
  · exact ⟨none, 0, 0, by rw [e], fun hk => absurd hk (by omega)⟩
  · refine ⟨_, g, cap, rfl, fun hk => ⟨rfl, (Array.getElem?_eq_some_iff.1 hg).1, fun i hi t ht => ?_⟩⟩
    have hx := XS_at L kp k i hi t ht
    have hv : ∃ u, (vD (KF L kp k i))[t]? = some u := by
      match t, ht with
      | 0, _ => exact ⟨_, rfl⟩
      | 1, _ => exact ⟨_, rfl⟩
      | 2, _ => exact ⟨_, rfl⟩
      | 3, _ => exact ⟨_, rfl⟩
    obtain ⟨u, hu⟩ := hv
    rw [hu] at hx ⊢
    have c := h.cells (g := g) rfl (i * 4 + t) u hx
    have e : (⟨g, 0, none⟩ : Addr).add (i * 4 + t) = ⟨g, 0 + i * 4 + t, none⟩ := by
      unfold Addr.add
      split
      · simp_all
      · simp
    rw [e] at c
    exact c
theorem BRow.down {W : World} {lo lo' g k : Nat} {kp : Nat → Bool} (h : BRow W lo g k kp) (hl : lo' ≤ lo) : BRow W lo' g k kp := fun hk => by
  obtain ⟨h2, h3, h4⟩ := h hk
  exact ⟨by omega, h3, h4⟩
theorem BRow.grown {W W1 : World} {lo g k Bs : Nat} {kp : Nat → Bool} {row : Option Nat} (h : BRow W lo g k kp) (hg : W.grownBy W1 row) (hgB : 0 < k → g < Bs) (hrow : ∀ q, row = some q → Bs ≤ q) : BRow W1 lo g k kp := fun hk => by
  obtain ⟨h2, h3, h4⟩ := h hk
  have hb := hgB hk
  have ne : some g ≠ row := fun e => by have := hrow g e.symm; omega
  have e := hg.block g h3 ne
  exact ⟨h2, Nat.lt_of_lt_of_le h3 hg.size, fun i hi => ⟨(World.cell?_of_block (a := ⟨g, i, none⟩) e).trans (h4 i hi).1, (World.frozen?_of_block (a := ⟨g, i, none⟩) e).trans (h4 i hi).2⟩⟩
theorem Try.info40 : (Try.prog.info? 40).map (fun i => (i.zero, i.size, i.bytes)) = some (some (.agg #[.int .i64 0, .int .i64 0, .int .i64 0, .int .i64 0]), 4, 32) := by kernel_rfl
theorem own_call4 {W W1 : World} {Bs n : Nat} {v : Value} {xs : List Value} (h : W.ownsRow Bs 40 4 v n xs) (hb : Below W.heap.size W W1) : W1.ownsRow Bs 40 4 v n xs :=
  h.kept (row := none) ⟨hb.os, hb.tape, hb.output, hb.size, fun k hk _ => hb.block k hk⟩ (by cases hv : v.ownBlock <;> simp)
end Go.Proofs.Ytfopcmiphklcdaa
