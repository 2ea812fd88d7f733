/- Divide's errors; Ints; awake. -/
import Derived.Test.YtfopcmiphklcdaaDivide
import Derived.BigQuiet
namespace Go.Proofs.Ytfopcmiphklcdaa
open Go.RowKit

set_option maxRecDepth 20000 in
set_option maxHeartbeats 2000000 in
theorem Divide_bad (total : Int) (A : Option Addr) (k cl bl ol : Nat) (L : Nat → Dr) (h : giv total k L ≠ 0) (w : World) (hR : Row w A k bl ol L) : Calls Try.prog 12 #[.int .i64 total, .slice A k cl] w fun e w' => e = .returned (.tuple #[.slice none 0 0, errV (giv total k L)]) ∧ Below w.heap.size w w' := by
  have hR2 : Row (w.alloc (.cells #[.slice A k cl] 22)) A k bl ol L := hR.mono (below_box (Below.refl w.heap.size w) _)
  have CK := given_any total A k cl bl ol L _ hR2
  obtain ⟨cd, hcd⟩ : ∃ cd, giv total k L = cd := ⟨_, rfl⟩
  rw [hcd] at CK h ⊢
  rw [errV_pos h] at CK ⊢
  have CK := Lib.hid CK
  clear hcd h hR hR2
  have KK : Kp w (w.alloc (.cells #[.slice A k cl] 22)) [] := (Kp.base w).alloc _
  go_enter Try.func12, Try.ntmps12
  go_wp2_with fail
  (with_reducible refine CK.out.mono ?_)
  rintro e w1 ⟨rfl, hb1⟩
  replace KK := KK.call hb1
  go_wp2_with fail
  refine bodyPost_ret (v := .tuple #[.slice none 0 0, .iface 66 (.int .i64 cd)]) ?_ rfl ⟨rfl, KK⟩
  simp [results, Try.results12, go_sem]
set_option maxRecDepth 20000 in
set_option maxHeartbeats 2000000 in
theorem Divide_over (total : Int) (A : Option Addr) (k cl bl ol : Nat) (L : Nat → Dr) (h : giv total k L = 0) (h2 : total < sm (fun i => (L i).a) k) (w : World) (hR : Row w A k bl ol L) : Calls Try.prog 12 #[.int .i64 total, .slice A k cl] w fun e w' => e = .returned (.tuple #[.slice none 0 0, .iface 66 (.int .i64 23)]) ∧ Below w.heap.size w w' := by
  have hR2 : Row (w.alloc (.cells #[.slice A k cl] 22)) A k bl ol L := hR.mono (below_box (Below.refl w.heap.size w) _)
  have CK := given_any total A k cl bl ol L _ hR2
  rw [h, errV_zero] at CK
  have CK := Lib.hid CK
  obtain ⟨⟨hk, hok⟩, ht⟩ := giv_zero.1 h
  obtain ⟨s, hs⟩ : ∃ s, sm (fun i => levD (L i) 0) k = s := ⟨_, rfl⟩
  have S0 : s = sm (fun i => (L i).a) k := by
    rw [← hs]
    exact sm_congr (fun i hi => lev_zero (hok i hi))
  have SM : Hid (∀ W, Kp w W [(w.heap.size, 22, #[.slice A k cl])] → Calls Try.prog 28 #[.int .i64 0, .pointer (some ⟨w.heap.size, 0, none⟩)] W fun e w' => e = .returned (.int .i64 s) ∧ Below W.heap.size W w') := Lib.hid (fun W K => by
    rw [← hs]
    exact sum_any 0 A k cl bl ol w.heap.size L (by omega) (by omega) hk hok W K.1 (hR.mono K.below))
  have d0 : decide (total < s) = true := decide_eq_true (by omega)
  clear hs S0 hok h h2 hR hR2 ht
  have KK : Kp w (w.alloc (.cells #[.slice A k cl] 22)) [(w.heap.size, 22, #[.slice A k cl])] := (Kp.base w).new _ _
  go_enter Try.func12, Try.ntmps12
  go_wp2_with fail
  (with_reducible refine CK.out.mono ?_)
  rintro e w1 ⟨rfl, hb1⟩
  replace KK := KK.call hb1
  go_wp2_with fail
  (with_reducible refine (SM.out _ KK).mono ?_)
  rintro e w2 ⟨rfl, hb2⟩
  replace KK := KK.call hb2
  go_wp2_with fail
  refine bodyPost_ret (v := .tuple #[.slice none 0 0, .iface 66 (.int .i64 23)]) ?_ rfl ⟨rfl, KK.2⟩
  simp [results, Try.results12, go_sem]

/-- A row of ints, wherever it lies. -/
def IR (W : World) (A : Option Addr) (n b o : Nat) (f : Nat → Int) : Prop := 0 < n → A = some ⟨b, o, none⟩ ∧ b < W.heap.size ∧ ∀ i, i < n → W.cell? ⟨b, o + i, none⟩ = some (.int .i64 (f i))
theorem IR.mono {w W : World} {A : Option Addr} {n b o : Nat} {f : Nat → Int} (h : IR w A n b o f) (hb : Below w.heap.size w W) : IR W A n b o f := fun hk => by
  obtain ⟨h1, h2, h3⟩ := h hk
  exact ⟨h1, Nat.lt_of_lt_of_le h2 hb.size, fun i hi => (hb.cell (p := ⟨b, o + i, none⟩) h2).trans (h3 i hi)⟩
theorem ORow.ir {W : World} {lo : Nat} {O : Option Addr} {g k : Nat} {o : Nat → Int} (h : ORow W lo O g k o) : IR W O k g 0 o := fun hk => by
  obtain ⟨h1, _, h3, h4⟩ := h hk
  exact ⟨h1, h3, fun i hi => by rw [Nat.zero_add]; exact (h4 i hi).1⟩
def eqB (f g : Nat → Int) : Nat → Bool
  | 0 => true
  | k + 1 => eqB f g k && (f k == g k)
theorem eqB_iff {f g : Nat → Int} : ∀ {k : Nat}, eqB f g k = true ↔ ∀ i, i < k → f i = g i
  | 0 => by simp [eqB]
  | k + 1 => by
    rw [eqB, Bool.and_eq_true, eqB_iff]
    constructor
    · rintro ⟨h, h1⟩ i hi
      by_cases e : i = k
      · subst e; simpa using h1
      · exact h i (by omega)
    · intro h
      exact ⟨fun i hi => h i (by omega), by simpa using h k (by omega)⟩
theorem eqB_no {f g : Nat → Int} {k i : Nat} (hi : i < k) (h : f i ≠ g i) : eqB f g k = false := by
  cases e : eqB f g k with
  | false => rfl
  | true => exact absurd (eqB_iff.1 e i hi) h
set_option maxHeartbeats 2000000 in
theorem Ints_any (A B : Option Addr) (n m ca cb ba oa bb ob : Nat) (f g : Nat → Int) (hn63 : n ≤ 9223372036854775807) (w : World) (hA : IR w A n ba oa f) (hB : IR w B m bb ob g) : Calls Try.prog 18 #[.slice A n ca, .slice B m cb] w fun e w' => e = .returned (.bool (decide (n = m) && eqB f g n)) ∧ Below w.heap.size w w' := by
  by_cases hnm : n = m
  · subst hnm
    have e1 : ((n : Int) != (n : Int)) = false := by simp
    have HA := Lib.hid hA
    have HB := Lib.hid hB
    have NE := Lib.hid (fun i hi h => @eqB_no f g n i hi h)
    obtain ⟨res, hres⟩ : ∃ res, eqB f g n = res := ⟨_, rfl⟩
    rw [hres] at NE
    rw [show (decide (n = n) && eqB f g n) = res by rw [hres]; simp]
    replace hres := Lib.hid hres
    clear hA hB
    have KK := Kp.base w
    go_enter Try.func18, Try.ntmps18
    go_wp2_with fail
    go_loopw [13] (fun i wr => ∃ j : Nat, i = .int .i64 (j : Int) ∧ j ≤ n ∧ eqB f g j = true ∧ Kp w wr []) (fun i _ => n - (intOf i).toNat)
    case atStart => exact ⟨0, rfl, Nat.zero_le _, rfl, KK⟩
    case round =>
      clear KK
      obtain ⟨j, rfl, hle, hall, KK⟩ := hrel
      replace hall := Lib.hid hall
      by_cases hlt : j < n
      · have g1 : decide ((j : Int) < (n : Int)) = true := decide_eq_true (by omega)
        have g2 : decide (j < n) = true := decide_eq_true hlt
        obtain ⟨eA, _, cA⟩ := (HA.out.mono KK) (by omega)
        obtain ⟨eB, _, cB⟩ := (HB.out.mono KK) (by omega)
        replace cA := cA j hlt
        replace cB := cB j hlt
        subst eA eB
        have NJ := Lib.hid (NE.out j hlt)
        have hn : eqB f g (j + 1) = (eqB f g j && (f j == g j)) := rfl
        rw [hall.out] at hn
        obtain ⟨x, hx⟩ : ∃ x, f j = x := ⟨_, rfl⟩
        obtain ⟨y, hy⟩ : ∃ y, g j = y := ⟨_, rfl⟩
        rw [hx] at cA hn NJ
        rw [hy] at cB hn NJ
        clear hx hy
        by_cases hxy : x = y
        · subst hxy
          have hn := Lib.hid (show eqB f g (j + 1) = true by rw [hn]; simp)
          have q1 : (x != x) = false := by simp
          go_wp2_with fail
          go_quiet (fail)
          have KK := KK.drewN nq
          generalize _root_.Go.World.drewN _ nq = wg at KK ⊢
          go_wp2_with fail
          exact ⟨⟨j + 1, by go_num, by omega, hn.out, KK⟩, by simp [intOf]; omega⟩
        · have q1 : (x != y) = true := by simpa using hxy
          have q2 : decide (x = y) = false := decide_eq_false hxy
          have NJ := Lib.hid (NJ.out hxy)
          clear hn hxy
          go_wp2_with fail
          go_quiet (fail)
          have KK := KK.drewN nq
          generalize _root_.Go.World.drewN _ nq = wg at KK ⊢
          go_wp2_with fail
          go_ret
          exact ⟨ret_bool NJ.out.symm, KK⟩
      · have g1 : decide ((j : Int) < (n : Int)) = false := decide_eq_false (by omega)
        have g2 : decide (j < n) = false := decide_eq_false hlt
        have e0 : j = n := by omega
        have hr := Lib.hid (show res = true by rw [← hres.out, ← e0]; exact hall.out)
        clear e0
        go_wp2_with fail
        go_ret
        exact ⟨ret_bool hr.out.symm, KK⟩
  · have e1 : ((n : Int) != (m : Int)) = true := by simp; omega
    have e2 : decide ((n : Int) = (m : Int)) = false := decide_eq_false (by omega)
    have e3 : (n != m) = true := by simpa using hnm
    rw [show (decide (n = m) && eqB f g n) = false by simp [hnm]]
    clear hA hB hnm
    go_enter Try.func18, Try.ntmps18
    go_wp2_with fail
    go_ret
    exact ⟨rfl, Below.refl _ _⟩

/-- The example's drives. -/
def exL : Nat → Dr := fun i => if i = 0 then ⟨1, 9, 20, 1⟩ else ⟨2, 20, 9, 3⟩
theorem ex_ok : okL 2 exL := by
  intro i hi
  match i, hi with
  | 0, _ => decide
  | 1, _ => decide
set_option maxHeartbeats 2000000 in
theorem awake_any (w : World) : Calls Try.prog 11 #[] w fun e w' => e = .returned (.bool true) ∧ Below w.heap.size w w' := by
  have hs : sm (fun i => (exL i).a) 2 = 3 := by decide +kernel
  have D0 := Divide_yes 10 (some ⟨w.heap.size, 0, none⟩) 2 2 w.heap.size 0 exL (by omega) ex_ok (by omega) (by rw [hs]; omega)
  have hd : eqB (divF 10 2 exL) (fun i => if i = 0 then 2 else 8) 2 = true := by decide +kernel
  have KK : Kp w (w.alloc (.cells (#[.int .i64 1, .int .i64 9, .int .i64 20, .int .i64 1, .int .i64 2, .int .i64 20, .int .i64 9, .int .i64 3] : Array Value) 40)) [(w.heap.size, 40, #[.int .i64 1, .int .i64 9, .int .i64 20, .int .i64 1, .int .i64 2, .int .i64 20, .int .i64 9, .int .i64 3])] := (Kp.base w).new _ _
  generalize divF 10 2 exL = df at D0 hd
  have hR : Row (w.alloc (.cells (#[.int .i64 1, .int .i64 9, .int .i64 20, .int .i64 1, .int .i64 2, .int .i64 20, .int .i64 9, .int .i64 3] : Array Value) 40)) (some ⟨w.heap.size, 0, none⟩) 2 w.heap.size 0 exL := fun _ => ⟨rfl, KK.1.lt, fun i hi j hj => by
    rw [KK.1.cell]
    match i, hi, j, hj with
    | 0, _, 0, _ => rfl
    | 0, _, 1, _ => rfl
    | 0, _, 2, _ => rfl
    | 0, _, 3, _ => rfl
    | 1, _, 0, _ => rfl
    | 1, _, 1, _ => rfl
    | 1, _, 2, _ => rfl
    | 1, _, 3, _ => rfl⟩
  have D0 := Lib.hid (D0 _ hR)
  clear hR
  go_enter Try.func11, Try.ntmps11
  go_wp2_with fail
  (with_reducible refine D0.out.mono ?_)
  rintro e w1 ⟨⟨O, g, c, rfl, OR⟩, hb1⟩
  have K1 := KK.2.call hb1
  have E0 : IR (w1.alloc (.cells #[.int .i64 2, .int .i64 8] 3)) (some ⟨w1.heap.size, 0, none⟩) 2 w1.heap.size 0 (fun i => if i = 0 then 2 else 8) := fun _ => ⟨rfl, by simp, fun i hi => by
    rw [(Blk.new w1 3 #[.int .i64 2, .int .i64 8]).cell]
    match i, hi with
    | 0, _ => rfl
    | 1, _ => rfl⟩
  have IN := Ints_any O (some ⟨w1.heap.size, 0, none⟩) 2 2 c 2 g 0 w1.heap.size 0 df (fun i => if i = 0 then 2 else 8) (by decide) _ (OR.alloc (.cells #[.int .i64 2, .int .i64 8] 3)).ir E0
  rw [hd] at IN
  have IN := Lib.hid IN
  clear E0 OR
  go_wp2_with fail
  (with_reducible refine IN.out.mono ?_)
  rintro e w2 ⟨rfl, hb2⟩
  have K2 := (K1.alloc _).call hb2
  go_wp2_with fail
  go_ret
  exact ⟨rfl, K2⟩

end Go.Proofs.Ytfopcmiphklcdaa
