/- Shed, the program's and the reference's. -/
import Derived.Test.YtfopcmiphklcdaaRDivide
import Derived.Test.YtfopcmiphklcdaaLaw1
namespace Go.Proofs.Ytfopcmiphklcdaa
open Go.RowKit

theorem Try.info4 : (Try.prog.info? 4).map (fun i => (i.zero, i.size, i.bytes)) = some (some (.bool false), 1, 1) := by kernel_rfl
/-- The drive that is dropped next, of the first i; -1: none. -/
def drF (L : Nat → Dr) (kp : Nat → Bool) : Nat → Int
  | 0 => -1
  | i + 1 => if kp i = true ∧ (drF L kp i < 0 ∨ (L i).d ≤ (L (drF L kp i).toNat).d) then (i : Int) else drF L kp i
def updB (kp : Nat → Bool) (p : Nat) (b : Bool) : Nat → Bool := fun i => if i = p then b else kp i
def sg (k : Nat) (L : Nat → Dr) : Nat → (Nat → Bool)
  | 0 => fun _ => true
  | n + 1 => updB (sg k L n) (drF L (sg k L n) k).toNat false
def sK (L : Nat → Dr) (kp : Nat → Bool) (k : Nat) : Int := sm (fun i => if kp i = true then (L i).a else 0) k
theorem dr_spec {L : Nat → Dr} {kp : Nat → Bool} : ∀ {k : Nat}, (drF L kp k = -1 ∧ ∀ i, i < k → kp i = false) ∨ ∃ n : Nat, drF L kp k = n ∧ n < k ∧ kp n = true ∧ ∀ i, i < k → kp i = true → (L n).d < (L i).d ∨ ((L n).d = (L i).d ∧ i ≤ n)
  | 0 => .inl ⟨rfl, fun i hi => absurd hi (by omega)⟩
  | k + 1 => by
    have ih := dr_spec (L := L) (kp := kp) (k := k)
    rw [drF]
    by_cases hc : kp k = true
    · rcases ih with ⟨e, hn⟩ | ⟨n, e, hnk, hcn, hall⟩
      · rw [if_pos ⟨hc, .inl (by omega)⟩]
        refine .inr ⟨k, rfl, by omega, hc, fun i hi hci => ?_⟩
        by_cases e2 : i = k
        · subst e2; exact .inr ⟨rfl, Nat.le_refl _⟩
        · have := hn i (by omega)
          rw [this] at hci
          cases hci
      · rw [e, Int.toNat_natCast]
        by_cases ht : (L k).d ≤ (L n).d
        · rw [if_pos ⟨hc, .inr ht⟩]
          refine .inr ⟨k, rfl, by omega, hc, fun i hi hci => ?_⟩
          by_cases e2 : i = k
          · subst e2; exact .inr ⟨rfl, Nat.le_refl _⟩
          · rcases hall i (by omega) hci with q | ⟨q, _⟩
            · exact .inl (by omega)
            · by_cases e3 : (L k).d = (L i).d
              · exact .inr ⟨e3, by omega⟩
              · exact .inl (by omega)
        · rw [if_neg (by omega)]
          refine .inr ⟨n, rfl, by omega, hcn, fun i hi hci => ?_⟩
          by_cases e2 : i = k
          · subst e2; exact .inl (by omega)
          · exact hall i (by omega) hci
    · rw [if_neg (fun x => hc x.1)]
      rcases ih with ⟨e, hn⟩ | ⟨n, e, hnk, hcn, hall⟩
      · refine .inl ⟨e, fun i hi => ?_⟩
        by_cases e2 : i = k
        · subst e2; simpa using hc
        · exact hn i (by omega)
      · refine .inr ⟨n, e, by omega, hcn, fun i hi hci => ?_⟩
        by_cases e2 : i = k
        · subst e2; exact absurd hci hc
        · exact hall i (by omega) hci
theorem dr_range {L : Nat → Dr} {kp : Nat → Bool} {k : Nat} : drF L kp k = -1 ∨ ∃ n : Nat, drF L kp k = n ∧ n < k := by
  rcases dr_spec (L := L) (kp := kp) (k := k) with ⟨e, _⟩ | ⟨n, e, h, _⟩
  · exact .inl e
  · exact .inr ⟨n, e, h⟩
theorem sK_bd {L : Nat → Dr} {kp : Nat → Bool} {k : Nat} (hk : k ≤ 8) (hok : okL k L) : 0 ≤ sK L kp k ∧ sK L kp k ≤ 8589934592 := by
  have := @sm_bd (fun i => if kp i = true then (L i).a else 0) 1073741824 k (fun i hi => by
    have := cap_bd (hok i hi)
    have := (hok i hi).1.1
    split
    · omega
    · omega)
  unfold sK
  omega
/-- As long as the sum is too great there is one to drop. -/
theorem dr_some {L : Nat → Dr} {kp : Nat → Bool} {k : Nat} {total : Int} (ht : 0 ≤ total) (h : total < sK L kp k) : ∃ n : Nat, drF L kp k = n ∧ n < k ∧ kp n = true := by
  rcases dr_spec (L := L) (kp := kp) (k := k) with ⟨_, hn⟩ | ⟨n, e, h1, h2, _⟩
  · have z : sK L kp k = sm (fun _ => 0) k := sm_congr (fun i hi => by simp [hn i hi])
    have z2 : ∀ q, sm (fun _ => 0) q = 0 := fun q => by
      induction q with
      | zero => rfl
      | succ q ih => rw [sm, ih]; rfl
    rw [z, z2] at h
    omega
  · exact ⟨n, e, h1, h2⟩
theorem sK_drop {L : Nat → Dr} {kp : Nat → Bool} {k n : Nat} (hn : n < k) (hk : kp n = true) : sK L (updB kp n false) k = sK L kp k - (L n).a := by
  unfold sK
  have e : (fun i => if updB kp n false i = true then (L i).a else 0) = upd (fun i => if kp i = true then (L i).a else 0) n 0 := by
    funext i
    unfold updB upd
    by_cases h : i = n
    · subst h; simp
    · simp [h]
  rw [e, sm_upd hn]
  simp [hk]
  omega
/-- How many are kept. -/
def cnt (kp : Nat → Bool) : Nat → Nat
  | 0 => 0
  | k + 1 => cnt kp k + (if kp k = true then 1 else 0)
theorem cnt_congr {f g : Nat → Bool} : ∀ {k : Nat}, (∀ i, i < k → f i = g i) → cnt f k = cnt g k
  | 0, _ => rfl
  | k + 1, h => by rw [cnt, cnt, cnt_congr (fun i hi => h i (by omega)), h k (by omega)]
theorem cnt_drop {kp : Nat → Bool} {n : Nat} : ∀ {k : Nat}, n < k → kp n = true → cnt (updB kp n false) k < cnt kp k
  | 0, h, _ => absurd h (by omega)
  | k + 1, h, hk => by
    rw [cnt, cnt]
    by_cases e : n = k
    · subst e
      rw [cnt_congr (f := updB kp n false) (g := kp) (fun i hi => by unfold updB; rw [if_neg (by omega)])]
      unfold updB
      simp [hk]
    · have := cnt_drop (kp := kp) (n := n) (k := k) (by omega) hk
      have e2 : updB kp n false k = kp k := by unfold updB; rw [if_neg (by omega)]
      rw [e2]
      omega
/-- What a world's cells say is kept. -/
def seen (W : World) (g : Nat) : Nat → Bool := fun i => match W.cell? ⟨g, i, none⟩ with | some (.bool b) => b | _ => false
/-- A row of bools, of the call's own. -/
def BRow (W : World) (lo g k : Nat) (kp : Nat → Bool) : Prop := 0 < k → lo ≤ g ∧ g < W.heap.size ∧ ∀ i, i < k → W.cell? ⟨g, i, none⟩ = some (.bool (kp i)) ∧ W.frozen? ⟨g, i, none⟩ = false
section
variable {W W1 : World} {lo g k : Nat} {kp : Nat → Bool}
theorem BRow.call (h : BRow W lo g k kp) (hb : Below W.heap.size W W1) : BRow W1 lo g k kp := fun hk => by
  obtain ⟨h2, h3, h4⟩ := h hk
  have f := far hb
  exact ⟨h2, Nat.lt_of_lt_of_le h3 hb.size, fun i hi => ⟨(f.1 g i h3).trans (h4 i hi).1, (f.2.1 g i h3).trans (h4 i hi).2⟩⟩
theorem BRow.drew (h : BRow W lo g k kp) : BRow W.drew lo g k kp := h
theorem BRow.alloc (h : BRow W lo g k kp) (x : Obj) : BRow (W.alloc x) lo g k kp := h.call (below_box (Below.refl W.heap.size W) x)
theorem BRow.at (h : BRow W lo g k kp) {i : Nat} (hi : i < k) : W.cell? ⟨g, i, none⟩ = some (.bool (kp i)) ∧ W.frozen? ⟨g, i, none⟩ = false := (h (by omega)).2.2 i hi
theorem BRow.congr {kp' : Nat → Bool} (h : BRow W lo g k kp) (e : ∀ i, i < k → kp i = kp' i) : BRow W lo g k kp' := fun hk => by
  obtain ⟨h2, h3, h4⟩ := h hk
  exact ⟨h2, h3, fun i hi => by rw [← e i hi]; exact h4 i hi⟩
theorem BRow.set (h : BRow W lo g k kp) {p : Nat} (hp : p < k) (v : Bool) : BRow (W.setCell ⟨g, p, none⟩ (.bool v)) lo g k (updB kp p v) := fun hk => by
  obtain ⟨h2, h3, h4⟩ := h hk
  refine ⟨h2, by rw [size_set]; exact h3, fun i hi => ?_⟩
  unfold updB
  by_cases e : i = p
  · subst e
    rw [if_pos rfl]
    exact ⟨World.cell?_setCell_same' W ⟨g, i, none⟩ _ (by rw [(h4 i hi).1]; rfl), by simpa using (h4 i hi).2⟩
  · rw [if_neg e]
    exact ⟨(World.cell?_setCell_other W ⟨g, p, none⟩ ⟨g, i, none⟩ _ (fun x => e (by cases x; rfl))).trans (h4 i hi).1, by simpa using (h4 i hi).2⟩
theorem BRow.cnt (h : BRow W lo g k kp) : cnt (seen W g) k = cnt kp k := cnt_congr (fun i hi => by
  unfold seen
  rw [(h.at hi).1])
theorem BRow.made {Bs c : Nat} (h : W.ownsRow Bs 4 1 (.slice (some ⟨g, 0, none⟩) k c) k (madeCells (Value.bool false).cells (k * 1)).toList) : BRow W Bs g k (fun _ => false) := fun hk => by
  rcases h.2 with ⟨e, _⟩ | ⟨g', cap, cur, e, hb, hg, _, _, _, ht⟩
  · cases e
  · cases e
    refine ⟨hb, (Array.getElem?_eq_some_iff.1 hg).1, fun i hi => ⟨?_, ?_⟩⟩
    · have c := h.cells (g := g) rfl i (.bool false) (by
        simp [madeCells, Value.cells, hi, Nat.mod_one])
      have e : (⟨g, 0, none⟩ : Addr).add i = ⟨g, i, none⟩ := by unfold Addr.add; split <;> simp_all
      rw [e] at c
      exact c
    · simp [World.frozen?, hg]
end

/-- What Shed gives back: the first of the states whose sum fits. -/
def ShedOut (w w' : World) (total : Int) (k : Nat) (L : Nat → Dr) (z : Value) (e : Ending) : Prop :=
  ∃ g m, e = .returned (.tuple #[.slice (some ⟨g, 0, none⟩) k k, z]) ∧ (sK L (sg k L m) k ≤ total ∧ ∀ m', m' < m → total < sK L (sg k L m') k) ∧ BRow w' w.heap.size g k (sg k L m)
theorem ShedOut.intro {w w' : World} {total : Int} {k : Nat} {L : Nat → Dr} {z : Value} {g m : Nat} (h : sK L (sg k L m) k ≤ total) (h2 : ∀ m', m' < m → total < sK L (sg k L m') k) (h3 : BRow w' w.heap.size g k (sg k L m)) : ShedOut w w' total k L z (.returned (.tuple #[.slice (some ⟨g, 0, none⟩) k k, z])) :=
  ⟨g, m, rfl, ⟨h, h2⟩, h3⟩
theorem shed_same {total : Int} {k : Nat} {L : Nat → Dr} {m m2 : Nat} (h : sK L (sg k L m) k ≤ total) (h2 : ∀ m', m' < m → total < sK L (sg k L m') k) (g : sK L (sg k L m2) k ≤ total) (g2 : ∀ m', m' < m2 → total < sK L (sg k L m') k) : m = m2 := by
  rcases Nat.lt_trichotomy m m2 with q | q | q
  · have := g2 m q; omega
  · exact q
  · have := h2 m2 q; omega

end Go.Proofs.Ytfopcmiphklcdaa
