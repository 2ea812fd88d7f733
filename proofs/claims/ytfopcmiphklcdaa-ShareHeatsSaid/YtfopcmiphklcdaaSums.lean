/- given, Formal, the sum. -/
import Derived.Test.YtfopcmiphklcdaaCheck
import Derived.StillTailTactics
namespace Go.Proofs.Ytfopcmiphklcdaa
open Go.RowKit

def sm (f : Nat → Int) : Nat → Int
  | 0 => 0
  | k + 1 => sm f k + f k
theorem sm_bd {f : Nat → Int} {B : Int} : ∀ {k : Nat}, (∀ i, i < k → 0 ≤ f i ∧ f i ≤ B) → 0 ≤ sm f k ∧ sm f k ≤ (k : Int) * B
  | 0, _ => by simp [sm]
  | k + 1, h => by
    have a := sm_bd (f := f) (B := B) (k := k) (fun i hi => h i (by omega))
    have c := h k (by omega)
    rw [sm]
    push_cast
    rw [Int.add_mul]
    omega
theorem cap_bd {x : Dr} (h : okD x) : x.a ≤ capD x ∧ capD x ≤ x.b ∧ 0 ≤ capD x ∧ capD x ≤ 1073741824 := by
  unfold okD at h
  unfold capD
  omega
theorem lev_bd {x : Dr} (h : okD x) (r : Int) : x.a ≤ levD x r ∧ levD x r ≤ capD x ∧ 0 ≤ levD x r ∧ levD x r ≤ 1073741824 := by
  have := cap_bd h
  unfold okD at h
  unfold levD
  omega
theorem small {j : Nat} {v s : Int} (hj : j < 8) (hs : 0 ≤ s ∧ s ≤ (j : Int) * 1073741824) (hv : 0 ≤ v ∧ v ≤ 1073741824) : 0 ≤ s + v ∧ s + v ≤ 8589934592 := by omega
open Classical in
noncomputable def giv (total : Int) (k : Nat) (L : Nat → Dr) : Int := if chk k L ≠ 0 then chk k L else if 0 ≤ total ∧ total ≤ 1099511627776 then 0 else 3
theorem giv_zero {total : Int} {k : Nat} {L : Nat → Dr} : giv total k L = 0 ↔ (k ≤ 8 ∧ okL k L) ∧ 0 ≤ total ∧ total ≤ 1099511627776 := by
  unfold giv
  rw [← chk_zero]
  split
  · rename_i h
    exact ⟨fun x => absurd x h, fun x => absurd x.1 h⟩
  · rename_i h
    have h : chk k L = 0 := by
      by_cases e : chk k L = 0
      · exact e
      · exact absurd e h
    split
    · rename_i h2
      exact ⟨fun _ => ⟨h, h2⟩, fun _ => rfl⟩
    · rename_i h2
      exact ⟨fun x => by omega, fun x => absurd x.2 h2⟩
theorem chk_vals (k : Nat) (L : Nat → Dr) : chk k L = 0 ∨ chk k L = 3 ∨ chk k L = 4 := by
  unfold chk
  split
  · exact .inr (.inr rfl)
  · split
    · exact .inl rfl
    · exact .inr (.inl rfl)
theorem errV_pos {c : Int} (h : c ≠ 0) : errV c = .iface 66 (.int .i64 c) := by
  unfold errV
  rw [if_neg h]

set_option maxHeartbeats 2000000 in
theorem given_any (total : Int) (A : Option Addr) (k cl bl ol : Nat) (L : Nat → Dr) (w : World) (hR : Row w A k bl ol L) : Calls Try.prog 27 #[.int .i64 total, .slice A k cl] w fun e w' => e = .returned (errV (giv total k L)) ∧ Below w.heap.size w w' := by
  have CK := Check_any A k cl bl ol L w hR
  by_cases h : chk k L = 0
  · rw [h, errV_zero] at CK
    have CK := Lib.hid CK
    have eg : giv total k L = if 0 ≤ total ∧ total ≤ 1099511627776 then 0 else 3 := by
      unfold giv
      rw [if_neg (by omega)]
    rw [eg]
    clear eg h hR
    by_cases h1 : total < 0
    · rw [if_neg (by omega)]
      have g1 : decide (total < 0) = true := decide_eq_true h1
      go_enter Try.func27, Try.ntmps27
      go_wp2_with fail
      (with_reducible refine (CK.out).mono ?_)
      rintro e w1 ⟨rfl, hb1⟩
      go_wp2_with fail
      go_ret
      exact ⟨rfl, hb1⟩
    · have g1 : decide (total < 0) = false := decide_eq_false h1
      by_cases h2 : 1099511627776 < total
      · rw [if_neg (by omega)]
        have g2 : decide (1099511627776 < total) = true := decide_eq_true h2
        go_enter Try.func27, Try.ntmps27
        go_wp2_with fail
        (with_reducible refine (CK.out).mono ?_)
        rintro e w1 ⟨rfl, hb1⟩
        go_wp2_with fail
        go_ret
        exact ⟨rfl, hb1⟩
      · rw [if_pos (by omega)]
        have g2 : decide (1099511627776 < total) = false := decide_eq_false h2
        go_enter Try.func27, Try.ntmps27
        go_wp2_with fail
        (with_reducible refine (CK.out).mono ?_)
        rintro e w1 ⟨rfl, hb1⟩
        go_wp2_with fail
        go_ret
        exact ⟨rfl, hb1⟩
  · have eg : giv total k L = chk k L := by
      unfold giv
      rw [if_pos h]
    rw [eg]
    obtain ⟨cd, hcd⟩ : ∃ cd, chk k L = cd := ⟨_, rfl⟩
    rw [hcd] at CK h ⊢
    rw [errV_pos h] at CK ⊢
    have CK := Lib.hid CK
    clear eg hcd h hR
    go_enter Try.func27, Try.ntmps27
    go_wp2_with fail
    (with_reducible refine (CK.out).mono ?_)
    rintro e w1 ⟨rfl, hb1⟩
    go_wp2_with fail
    go_ret
    exact ⟨rfl, hb1⟩

set_option maxHeartbeats 2000000 in
theorem sum_any (r : Int) (A : Option Addr) (k cl bl ol B : Nat) (L : Nat → Dr) (hr : 0 ≤ r) (hr2 : r ≤ 1073741824) (hk : k ≤ 8) (hok : okL k L) (w : World) (hB : Blk w B 22 #[.slice A k cl]) (hR : Row w A k bl ol L) : Calls Try.prog 28 #[.int .i64 r, .pointer (some ⟨B, 0, none⟩)] w fun e w' => e = .returned (.int .i64 (sm (fun i => levD (L i) r) k)) ∧ Below w.heap.size w w' := by
  have HR := Lib.hid hR
  have SB := Lib.hid (fun j (hj : j ≤ k) => @sm_bd (fun i => levD (L i) r) 1073741824 j (fun i hi => (lev_bd (hok i (by omega)) r).2.2))
  have LV := Lib.hid (fun j (hj : j < k) => level_any (L j) r hr hr2 (hok j hj).2.2.1 (hok j hj).2.2.2)
  have LB := Lib.hid (fun j (hj : j < k) => (lev_bd (hok j hj) r).2.2)
  have cB := hB.cell
  have KK := Kp.base w
  clear hR hok hr hr2
  go_enter Try.func28, Try.ntmps28
  go_wp2_with fail
  go_loopw [4, 9] (fun n i wr => ∃ j : Nat, i = .int .i64 (j : Int) ∧ j ≤ k ∧ n = .int .i64 (sm (fun i => levD (L i) r) j) ∧ Kp w wr []) (fun _ i _ => k - (intOf i).toNat)
  case atStart => exact ⟨0, rfl, Nat.zero_le _, rfl, KK⟩
  case round =>
    clear KK
    obtain ⟨j, rfl, hle, rfl, KK⟩ := hrel
    by_cases hlt : j < k
    · have g1 : decide ((j : Int) < (k : Int)) = true := decide_eq_true (by omega)
      have g2 : decide (j < k) = true := decide_eq_true hlt
      obtain ⟨rfl, c0, c1, c2, c3⟩ := HR.out.at KK.below hlt
      have LJ := LV.out j hlt
      have bs := SB.out j hle
      have bv := LB.out j hlt
      have hs : sm (fun i => levD (L i) r) (j + 1) = sm (fun i => levD (L i) r) j + levD (L j) r := rfl
      obtain ⟨v, hv⟩ : ∃ v, levD (L j) r = v := ⟨_, rfl⟩
      rw [hv] at LJ bv hs
      obtain ⟨s, hs1⟩ : ∃ s, sm (fun i => levD (L i) r) j = s := ⟨_, rfl⟩
      rw [hs1] at bs hs
      obtain ⟨x, hx⟩ : ∃ x, L j = x := ⟨_, rfl⟩
      rw [hx] at c0 c1 c2 c3 LJ
      have b2 := small (by omega) bs bv
      have w1 : IntKind.i64.wrap (s + v) = s + v := IntWalk.i64_in _ (by omega)
      replace LJ := Lib.hid LJ
      replace hs := Lib.hid hs
      rw [hs1]
      clear hv hs1 hx bs bv b2
      have KA := KK.new #[.int .i64 x.a, .int .i64 x.b, .int .i64 x.c, .int .i64 x.d] 40
      have KA := KA.2
      go_wp2_with fail
      (with_reducible refine (LJ.out _).mono ?_)
      rintro e w2 ⟨rfl, hb2⟩
      have KB := KA.call hb2
      go_wp2_with fail
      exact ⟨⟨j + 1, by go_num, by omega, by rw [hs.out], KB⟩, by simp [intOf]; omega⟩
    · have g1 : decide ((j : Int) < (k : Int)) = false := decide_eq_false (by omega)
      have g2 : decide (j < k) = false := decide_eq_false hlt
      have e0 : j = k := by omega
      subst e0
      go_wp2_with fail
      go_ret
      exact ⟨rfl, KK⟩

end Go.Proofs.Ytfopcmiphklcdaa
