/- word.Dot in all cases; two rows that grow. -/
import Derived.Test.YthldpmfobhemkaaLaw15
import Derived.Test.YthldpmfobhemkaaRefs
import Derived.WalkKit
import Derived.Deep.AppendLies
namespace Go.Proofs.Ythldpmfobhemkaa
open Go.RowKit

set_option maxRecDepth 20000 in
set_option maxHeartbeats 2000000 in
theorem Dot_no (b s : Int) (k : Nat) (n m : Int) (A B : Option Addr) (ca cb : Nat) (hk : k ≤ 256) (h : ¬ (okF b s ∧ (0 ≤ n ∧ n ≤ 62) ∧ 0 ≤ m ∧ m ≤ 3)) (w : World) : Calls Try.prog 15 #[.agg #[.int .i64 b, .int .i64 s], .slice A k ca, .slice B k cb, .int .i64 n, .int .i64 m] w fun e w' => e = .returned (.tuple #[.int .i64 0, .bool false, .iface 67 (.int .i64 3)]) ∧ Below w.heap.size w w' := by
  have g0 : decide ((256 : Int) < (k : Int)) = false := decide_eq_false (by omega)
  have g00 : decide (256 < k) = false := decide_eq_false (by omega)
  by_cases hF : okF b s
  · have CY := Lib.hid (Check_yes b s hF)
    by_cases hn : 0 ≤ n ∧ n ≤ 62
    · have hm : m < 0 ∨ 3 < m := by
        have : ¬ (0 ≤ m ∧ m ≤ 3) := fun hh => h ⟨hF, hn, hh⟩
        omega
      have WY := Lib.hid (within_yes n 0 62 hn.1 hn.2)
      have MN := Lib.hid (mode_no m hm)
      clear h hm hn
      go_enter Try.func15, Try.ntmps15
      go_wp2_with fail
      (with_reducible refine (CY.out _).mono ?_)
      rintro e w1 ⟨rfl, hb1⟩
      have KK : Kp w w1 [(w.heap.size, 23, #[.int .i64 b, .int .i64 s])] := ⟨((Blk.new w 23 #[.int .i64 b, .int .i64 s]).next hb1).1, below_call (below_box (Below.refl w.heap.size w) _) hb1⟩
      go_wp2_with fail
      (with_reducible refine (WY.out _).mono ?_)
      rintro e w' ⟨rfl, rfl⟩
      go_wp2_with fail
      (with_reducible refine (MN.out _).mono ?_)
      rintro e w' ⟨rfl, rfl⟩
      go_wp2_with fail
      refine bodyPost_ret (v := .tuple #[.int .i64 0, .bool false, .iface 67 (.int .i64 3)]) ?_ rfl ⟨rfl, ?_⟩
      · simp [results, Try.results15, go_sem]
      · exact KK.below
    · have WN := Lib.hid (within_no n 0 62 (by omega))
      clear h hn
      go_enter Try.func15, Try.ntmps15
      go_wp2_with fail
      (with_reducible refine (CY.out _).mono ?_)
      rintro e w1 ⟨rfl, hb1⟩
      have KK : Kp w w1 [(w.heap.size, 23, #[.int .i64 b, .int .i64 s])] := ⟨((Blk.new w 23 #[.int .i64 b, .int .i64 s]).next hb1).1, below_call (below_box (Below.refl w.heap.size w) _) hb1⟩
      go_wp2_with fail
      (with_reducible refine (WN.out _).mono ?_)
      rintro e w' ⟨rfl, rfl⟩
      go_wp2_with fail
      refine bodyPost_ret (v := .tuple #[.int .i64 0, .bool false, .iface 67 (.int .i64 3)]) ?_ rfl ⟨rfl, ?_⟩
      · simp [results, Try.results15, go_sem]
      · exact KK.below
  · have CN := Lib.hid (Check_no b s hF)
    clear h
    go_enter Try.func15, Try.ntmps15
    go_wp2_with fail
    (with_reducible refine (CN.out _).mono ?_)
    rintro e w1 ⟨rfl, hb1⟩
    have KK : Kp w w1 [(w.heap.size, 23, #[.int .i64 b, .int .i64 s])] := ⟨((Blk.new w 23 #[.int .i64 b, .int .i64 s]).next hb1).1, below_call (below_box (Below.refl w.heap.size w) _) hb1⟩
    go_wp2_with fail
    refine bodyPost_ret (v := .tuple #[.int .i64 0, .bool false, .iface 67 (.int .i64 3)]) ?_ rfl ⟨rfl, ?_⟩
    · simp [results, Try.results15, go_sem]
    · exact KK.below

/-- What word.Dot answers. -/
def dotG (b s : Int) (k : Nat) (f g : Nat → Int) (n m : Int) : Prop := (okF b s ∧ (0 ≤ n ∧ n ≤ 62) ∧ 0 ≤ m ∧ m ≤ 3) ∧ allW b f g k = true
open Classical in
noncomputable def dotA (b s : Int) (k : Nat) (f g : Nat → Int) (n m : Int) : Int := if dotG b s k f g n m then satV b (wideR (sumP f g k / 4294967296) (sumP f g k % 4294967296) n.toNat m) else 0
open Classical in
noncomputable def dotC (b s : Int) (k : Nat) (f g : Nat → Int) (n m : Int) : Bool := if dotG b s k f g n m then satB b (wideR (sumP f g k / 4294967296) (sumP f g k % 4294967296) n.toNat m) else false
open Classical in
noncomputable def dotE (b s : Int) (k : Nat) (f g : Nat → Int) (n m : Int) : Int := if dotG b s k f g n m then 0 else 3
theorem Dot_all (b s : Int) (k : Nat) (f g : Nat → Int) (n m : Int) (ba oa ca bb ob cb : Nat) (hk : k ≤ 256) (w : World) (hba : ba < w.heap.size) (hbb : bb < w.heap.size) (hca : ∀ i, i < k → w.cell? ⟨ba, oa + i, none⟩ = some (.int .i64 (f i))) (hcb : ∀ i, i < k → w.cell? ⟨bb, ob + i, none⟩ = some (.int .i64 (g i))) : Calls Try.prog 15 #[.agg #[.int .i64 b, .int .i64 s], .slice (some ⟨ba, oa, none⟩) k ca, .slice (some ⟨bb, ob, none⟩) k cb, .int .i64 n, .int .i64 m] w fun e w' => e = .returned (.tuple #[.int .i64 (dotA b s k f g n m), .bool (dotC b s k f g n m), errV (dotE b s k f g n m)]) ∧ Below w.heap.size w w' := by
  by_cases h : okF b s ∧ (0 ≤ n ∧ n ≤ 62) ∧ 0 ≤ m ∧ m ≤ 3
  · obtain ⟨j, rfl⟩ : ∃ j : Nat, n = (j : Int) := ⟨n.toNat, by omega⟩
    refine (Dot_any b s k f g j m ba oa ca bb ob cb h.1 hk (by omega) h.2.2.1 h.2.2.2 w hba hbb hca hcb).mono ?_
    rintro e w' ⟨rfl, hb⟩
    refine ⟨?_, hb⟩
    unfold dotV dotA dotC dotE dotG
    by_cases h2 : allW b f g k = true
    · rw [if_pos h2, if_pos ⟨h, h2⟩, if_pos ⟨h, h2⟩, if_pos ⟨h, h2⟩, errV_zero, Int.toNat_natCast]
    · rw [if_neg h2, if_neg (fun x => h2 x.2), if_neg (fun x => h2 x.2), if_neg (fun x => h2 x.2)]
      rfl
  · refine (Dot_no b s k n m _ _ ca cb hk h w).mono ?_
    rintro e w' ⟨rfl, hb⟩
    refine ⟨?_, hb⟩
    unfold dotA dotC dotE dotG
    rw [if_neg (fun x => h x.1), if_neg (fun x => h x.1), if_neg (fun x => h x.1)]
    rfl
theorem Mul_all (b s x y n m : Int) (w : World) : Calls Try.prog 17 #[.agg #[.int .i64 b, .int .i64 s], .int .i64 x, .int .i64 y, .int .i64 n, .int .i64 m] w fun e w' => e = .returned (.tuple #[.int .i64 (dotA b s 1 (fun _ => x) (fun _ => y) n m), .bool (dotC b s 1 (fun _ => x) (fun _ => y) n m), errV (dotE b s 1 (fun _ => x) (fun _ => y) n m)]) ∧ Below w.heap.size w w' := by
  have ha : allW b (fun _ => x) (fun _ => y) 1 = true ↔ isW b x = true ∧ isW b y = true := by simp [allW]
  have hs : sumP (fun _ => x) (fun _ => y) 1 = x * y := by simp [sumP]
  by_cases h : okW b s x y ∧ (0 ≤ n ∧ n ≤ 62) ∧ 0 ≤ m ∧ m ≤ 3
  · obtain ⟨j, rfl⟩ : ∃ j : Nat, n = (j : Int) := ⟨n.toNat, by omega⟩
    refine (Mul_yes b s x y j m h.1 (by omega) h.2.2.1 h.2.2.2 w).mono ?_
    rintro e w' ⟨rfl, hb⟩
    refine ⟨?_, hb⟩
    have hg : dotG b s 1 (fun _ => x) (fun _ => y) j m := ⟨⟨h.1.1, h.2.1, h.2.2⟩, ha.2 h.1.2⟩
    have hA := h.1.1.1
    have hB := h.1.1.2.1
    have o := one_prod (b := b) hA hB (isW_le hA hB h.1.2.1) (isW_le hA hB h.1.2.2) (n := j) (by omega) m
    unfold dotA dotC dotE
    rw [if_pos hg, if_pos hg, if_pos hg, hs, Int.toNat_natCast, o.1, o.2, errV_zero]
  · refine (Mul_no b s x y n m h w).mono ?_
    rintro e w' ⟨rfl, hb⟩
    refine ⟨?_, hb⟩
    have hg : ¬ dotG b s 1 (fun _ => x) (fun _ => y) n m := fun g => h ⟨⟨g.1.1, ha.1 g.2⟩, g.1.2⟩
    unfold dotA dotC dotE
    rw [if_neg hg, if_neg hg, if_neg hg]
    rfl
theorem sumP_congr {f g f' g' : Nat → Int} : ∀ {k : Nat}, (∀ i, i < k → f i = f' i ∧ g i = g' i) → sumP f g k = sumP f' g' k
  | 0, _ => rfl
  | k + 1, h => by
    rw [sumP, sumP, sumP_congr (fun i hi => h i (by omega)), (h k (by omega)).1, (h k (by omega)).2]
theorem allW_congr {b : Int} {f g f' g' : Nat → Int} {k : Nat} (h : ∀ i, i < k → f i = f' i ∧ g i = g' i) : allW b f g k = allW b f' g' k := by
  rw [Bool.eq_iff_iff, allW_iff, allW_iff]
  constructor
  · intro a i hi
    rw [← (h i hi).1, ← (h i hi).2]
    exact a i hi
  · intro a i hi
    rw [(h i hi).1, (h i hi).2]
    exact a i hi
theorem sumP_front (f g : Nat → Int) : ∀ k : Nat, sumP f g (k + 1) = f 0 * g 0 + sumP (fun i => f (i + 1)) (fun i => g (i + 1)) k
  | 0 => by simp [sumP]
  | k + 1 => by
    rw [sumP, sumP_front f g k, sumP]
    omega
theorem sumP_rev : ∀ (k : Nat) (f g : Nat → Int), sumP (fun i => g (k - 1 - i)) (fun i => f (k - 1 - i)) k = sumP f g k
  | 0, _, _ => rfl
  | k + 1, f, g => by
    rw [sumP, sumP_front f g k, ← sumP_rev k (fun i => f (i + 1)) (fun i => g (i + 1)), sumP_congr (f' := fun i => g (k - 1 - i + 1)) (g' := fun i => f (k - 1 - i + 1)) (fun i hi => by
      rw [show k + 1 - 1 - i = k - 1 - i + 1 by omega]
      exact ⟨rfl, rfl⟩)]
    simp only [Nat.add_sub_cancel, Nat.sub_self]
    rw [Int.mul_comm (g 0)]
    omega
theorem allW_rev {b : Int} {k : Nat} {f g : Nat → Int} : allW b (fun i => g (k - 1 - i)) (fun i => f (k - 1 - i)) k = allW b f g k := by
  rw [Bool.eq_iff_iff, allW_iff, allW_iff]
  constructor
  · intro h i hi
    have := h (k - 1 - i) (by omega)
    rw [show k - 1 - (k - 1 - i) = i by omega] at this
    exact ⟨this.2, this.1⟩
  · intro h i hi
    have := h (k - 1 - i) (by omega)
    exact ⟨this.2, this.1⟩
theorem dot_rev (b s : Int) (k : Nat) (f g : Nat → Int) (n m : Int) : dotA b s k (fun i => g (k - 1 - i)) (fun i => f (k - 1 - i)) n m = dotA b s k f g n m ∧ dotC b s k (fun i => g (k - 1 - i)) (fun i => f (k - 1 - i)) n m = dotC b s k f g n m ∧ dotE b s k (fun i => g (k - 1 - i)) (fun i => f (k - 1 - i)) n m = dotE b s k f g n m := by
  unfold dotA dotC dotE dotG
  rw [sumP_rev, allW_rev]
  exact ⟨rfl, rfl, rfl⟩
theorem dot_congr (b s : Int) {k : Nat} {f g f' g' : Nat → Int} (h : ∀ i, i < k → f i = f' i ∧ g i = g' i) (n m : Int) : dotA b s k f g n m = dotA b s k f' g' n m ∧ dotC b s k f g n m = dotC b s k f' g' n m ∧ dotE b s k f g n m = dotE b s k f' g' n m := by
  unfold dotA dotC dotE dotG
  rw [sumP_congr h, allW_congr h]
  exact ⟨rfl, rfl, rfl⟩

/-- Two rows of the call's own, that grow; the blocks below stand; and cells that wait to be appended. -/
structure Two (w W : World) (Bs : Nat) (va vb : Value) (n1 n2 : Nat) (xa xb : List Value) (ls : List (Nat × TypeId × Array Value)) (pend : List (Nat × Value)) : Prop where
  kp : Kp w W ls
  low : w.heap.size ≤ Bs
  size : Bs ≤ W.heap.size
  blocks : ∀ e ∈ ls, e.1 < Bs
  oa : W.ownsRow Bs 3 1 va n1 xa
  ob : W.ownsRow Bs 3 1 vb n2 xb
  sep : ∀ g, va.ownBlock = some g → vb.ownBlock ≠ some g
  pend : ∀ e ∈ pend, e.1 < W.heap.size ∧ Bs ≤ e.1 ∧ va.ownBlock ≠ some e.1 ∧ vb.ownBlock ≠ some e.1 ∧ W.cell? ⟨e.1, 0, none⟩ = some e.2
theorem Kp.grown {w W W1 : World} {Bs : Nat} {row : Option Nat} (hg : W.grownBy W1 row) (hlow : w.heap.size ≤ Bs) (hs : Bs ≤ W.heap.size) (hrow : ∀ k, row = some k → Bs ≤ k) : ∀ {l : List (Nat × TypeId × Array Value)}, (∀ e ∈ l, e.1 < Bs) → Kp w W l → Kp w W1 l
  | [], _, h => Below.grown (B := w.heap.size) h hg (by omega) (fun k hk => Nat.le_trans hlow (hrow k hk))
  | e :: l, hl, h => ⟨(hg.block e.1 (Nat.lt_of_lt_of_le (hl e (by simp)) hs) (fun e1 => by
      have := hrow e.1 e1.symm
      have := hl e (by simp)
      omega)).trans h.1, Kp.grown hg hlow hs hrow (fun x hx => hl x (by simp [hx])) h.2⟩
section
variable {w W W1 : World} {Bs : Nat} {va vb : Value} {n1 n2 : Nat} {xa xb : List Value} {ls : List (Nat × TypeId × Array Value)} {pend : List (Nat × Value)}
theorem Two.drew (h : Two w W Bs va vb n1 n2 xa xb ls pend) : Two w W.drew Bs va vb n1 n2 xa xb ls pend :=
  ⟨h.kp.drew, h.low, h.size, h.blocks, h.oa, h.ob, h.sep, h.pend⟩
theorem Two.box (h : Two w W Bs va vb n1 n2 xa xb ls pend) (u : Value) (t : TypeId) : Two w (W.alloc (.cells #[u] t)) Bs va vb n1 n2 xa xb ls ((W.heap.size, u) :: pend) := by
  have hz : (W.alloc (.cells #[u] t)).heap.size = W.heap.size + 1 := by simp
  refine ⟨h.kp.alloc _, h.low, by have := h.size; omega, h.blocks, h.oa.alloc _, h.ob.alloc _, h.sep, ?_⟩
  intro e he
  rcases List.mem_cons.1 he with rfl | he
  · refine ⟨by simp, h.size, fun x => ?_, fun x => ?_, (Blk.new W t #[u]).cell 0⟩
    · have := (h.oa.lt _ x).2
      simp at this
    · have := (h.ob.lt _ x).2
      simp at this
  · obtain ⟨a, c, d, e', g⟩ := h.pend e he
    exact ⟨by omega, c, d, e', (World.cell?_of_block (Below.heap_alloc W _ e.1 a)).trans g⟩
theorem own_row (g n cap : Nat) : (Value.slice (some ⟨g, 0, none⟩) n cap).ownBlock = some g := rfl
theorem Two.growA (h : Two w W Bs va vb n1 n2 xa xb ls pend) {g cap n' : Nat} {xs : List Value} (hg : W.grownBy W1 va.ownBlock) (ho : W1.ownsRow Bs 3 1 (.slice (some ⟨g, 0, none⟩) n' cap) n' xs) (hat : va.ownBlock = some g ∨ g = W.heap.size) : Two w W1 Bs (.slice (some ⟨g, 0, none⟩) n' cap) vb n' n2 xs xb ls pend := by
  have hrow : ∀ k, va.ownBlock = some k → Bs ≤ k := fun k hk => (h.oa.lt k hk).1
  have hgb : vb.ownBlock ≠ some g := by
    rcases hat with e | e
    · exact h.sep g e
    · intro x
      have := (h.ob.lt g x).2
      omega
  refine ⟨h.kp.grown hg h.low h.size hrow h.blocks, h.low, Nat.le_trans h.size hg.size, h.blocks, ho, ?_, ?_, ?_⟩
  · refine h.ob.kept hg ?_
    cases hv : vb.ownBlock with
    | none => exact .inl rfl
    | some k => exact .inr (fun x => h.sep k x.symm hv)
  · intro k hk
    rw [own_row] at hk
    cases hk
    exact hgb
  · intro e he
    obtain ⟨a, c, d, e', f'⟩ := h.pend e he
    refine ⟨Nat.lt_of_lt_of_le a hg.size, c, ?_, e', ?_⟩
    · rw [own_row]
      intro x
      cases x
      rcases hat with q | q
      · exact d q
      · omega
    · exact hg.cell f' (fun x => d x.symm)
theorem Two.swap (h : Two w W Bs va vb n1 n2 xa xb ls pend) : Two w W Bs vb va n2 n1 xb xa ls pend :=
  ⟨h.kp, h.low, h.size, h.blocks, h.ob, h.oa, fun k hk hk2 => h.sep k hk2 hk, fun e he => by
    obtain ⟨a, c, d, e', g⟩ := h.pend e he
    exact ⟨a, c, e', d, g⟩⟩
theorem Two.growB (h : Two w W Bs va vb n1 n2 xa xb ls pend) {g cap n' : Nat} {xs : List Value} (hg : W.grownBy W1 vb.ownBlock) (ho : W1.ownsRow Bs 3 1 (.slice (some ⟨g, 0, none⟩) n' cap) n' xs) (hat : vb.ownBlock = some g ∨ g = W.heap.size) : Two w W1 Bs va (.slice (some ⟨g, 0, none⟩) n' cap) n1 n' xa xs ls pend :=
  (h.swap.growA hg ho hat).swap
theorem Two.drop (h : Two w W Bs va vb n1 n2 xa xb ls pend) : Two w W Bs va vb n1 n2 xa xb ls [] :=
  ⟨h.kp, h.low, h.size, h.blocks, h.oa, h.ob, h.sep, fun e he => by cases he⟩
theorem Two.new (h : Kp w W ls) (hl : w.heap.size ≤ W.heap.size) (hb : ∀ e ∈ ls, e.1 < W.heap.size) : Two w W W.heap.size (.slice none 0 0) (.slice none 0 0) 0 0 [] [] ls [] :=
  ⟨h, hl, Nat.le_refl _, hb, World.ownsRow_nil _ _ _ _, World.ownsRow_nil _ _ _ _, fun g hg => (by cases hg), fun e he => (by cases he)⟩
end
/-- The elements, back to front. -/
def revL (f : Nat → Int) (k i : Nat) : List Value := (List.range i).map fun j => .int .i64 (f (k - 1 - j))
theorem revL_succ (f : Nat → Int) (k i : Nat) : revL f k (i + 1) = revL f k i ++ [.int .i64 (f (k - 1 - i))] := by
  unfold revL
  rw [List.range_succ, List.map_append]
  rfl
theorem own_form {W : World} {Bs k : Nat} {v : Value} {f : Nat → Int} (h : W.ownsRow Bs 3 1 v k (revL f k k)) (hk : 0 < k) : ∃ g cap, v = .slice (some ⟨g, 0, none⟩) k cap ∧ g < W.heap.size ∧ ∀ i, i < k → W.cell? ⟨g, 0 + i, none⟩ = some (.int .i64 (f (k - 1 - i))) := by
  rcases h.2 with ⟨_, e⟩ | ⟨g, cap, cur, rfl, hb, hg, _⟩
  · omega
  · refine ⟨g, cap, rfl, (Array.getElem?_eq_some_iff.1 hg).1, fun i hi => ?_⟩
    have c := h.cells (g := g) rfl i (.int .i64 (f (k - 1 - i))) (by
      unfold revL
      rw [List.getElem?_map, List.getElem?_range hi]
      rfl)
    rw [Nat.zero_add]
    have e : (⟨g, 0, none⟩ : Addr).add i = ⟨g, i, none⟩ := by unfold Addr.add; split <;> simp_all
    rw [e] at c
    exact c
end Go.Proofs.Ythldpmfobhemkaa
