/- The reference's Dot of one element, Mul; the walk of WordMuls. -/
import Derived.Test.YthldpmfobhemkaaLaw9
import Derived.Test.YthldpmfobhemkaaLaw10
namespace Go.Proofs.Ythldpmfobhemkaa
open Go.RowKit

/-- 2^62, rounded to above any word. -/
theorem far_top {n : Nat} (h : n ≤ 31) (m : Int) : 2147483648 ≤ rnd 4611686018427387904 n m := by
  have e : (4611686018427387904 : Int) = 2 ^ (62 - n) * 2 ^ n := by
    rw [← Int.pow_add, show 62 - n + n = 62 by omega]
    decide
  rw [e, rnd_back]
  have := p2_le (show 31 ≤ 62 - n by omega)
  have e2 : (2 : Int) ^ 31 = 2147483648 := by decide
  omega
theorem sat_top {b z : Int} (h : 2 ≤ b) (h2 : b ≤ 32) (hz : 2147483648 ≤ z) : satV b z = halfF b - 1 ∧ satB b z = true := by
  have := halfF_le h h2
  have e : satV b z = halfF b - 1 := by unfold satV; omega
  refine ⟨e, ?_⟩
  unfold satB
  rw [e]
  simp
  omega

set_option maxRecDepth 20000 in
set_option maxHeartbeats 8000000 in
theorem rDot1_low (b s x y : Int) (n : Nat) (m : Int) (ba bb : Nat) (h : okW b s x y) (hn : n ≤ 31) (hm : 0 ≤ m) (hm2 : m ≤ 3) (w : World) (hba : ba < w.heap.size) (hbb : bb < w.heap.size) (hca : w.cell? ⟨ba, 0, none⟩ = some (.int .i64 x)) (hcb : w.cell? ⟨bb, 0, none⟩ = some (.int .i64 y)) : Calls Try.prog 47 #[.agg #[.int .i64 b, .int .i64 s], .slice (some ⟨ba, 0, none⟩) 1 1, .slice (some ⟨bb, 0, none⟩) 1 1, .int .i64 n, .int .i64 m] w fun e w' => e = .returned (.tuple #[.int .i64 (satV b (rnd (x * y) n m)), .bool (satB b (rnd (x * y) n m)), .int .i64 0]) ∧ Below w.heap.size w w' := by
  have hA := h.1.1
  have hB := h.1.2.1
  have hx := isW_le hA hB h.2.1
  have hy := isW_le hA hB h.2.2
  have hp := mul_le hx hy
  have IX := rIs_yes b s x h.1
  rw [h.2.1] at IX
  have IX := Lib.hid IX
  have IY := rIs_yes b s y h.1
  rw [h.2.2] at IY
  have IY := Lib.hid IY
  have CY := Lib.hid (rCheck_yes b s h.1)
  obtain ⟨p, hp1⟩ : ∃ p, x * y = p := ⟨_, rfl⟩
  rw [hp1] at hp
  have wp : IntKind.i64.wrap (x * y) = p := by rw [hp1]; exact IntWalk.i64_in _ (by omega)
  obtain ⟨H, hH⟩ : ∃ H, p / 4294967296 = H := ⟨_, rfl⟩
  obtain ⟨L, hL⟩ : ∃ L, p % 4294967296 = L := ⟨_, rfl⟩
  have an : bits .and .i64 p 4294967295 = L := by
    have := bits_mask 32 (by decide) p
    rw [← hL]
    simpa using this
  have pHL : H * 4294967296 + L = p := by omega
  have hLb : 0 ≤ L ∧ L < 4294967296 := by omega
  have hHb : -1073741824 ≤ H ∧ H ≤ 1073741824 := by omega
  have wH : IntKind.i64.wrap H = H := IntWalk.i64_in _ (by omega)
  have wL : IntKind.i64.wrap L = L := IntWalk.i64_in _ (by omega)
  have L0 : L / 4294967296 = 0 := by omega
  have aL : bits .and .i64 L 4294967295 = L := by
    have := bits_mask 32 (by decide) L
    rw [show (2 : Int) ^ 32 = 4294967296 by decide, Int.emod_eq_of_lt hLb.1 hLb.2] at this
    simpa using this
  obtain ⟨z, hz⟩ : ∃ z, rnd p n m = z := ⟨_, rfl⟩
  rw [hp1, hz]
  have SA := Lib.hid (rClip_any b s z hA hB)
  have GR := Lib.hid (Greatest_any b s hA hB)
  have RO := Round_any p n m (by omega) (by omega) (by omega)
  rw [hz] at RO
  have RO := Lib.hid RO
  have RE := rnd_eq p n m
  rw [hz] at RE
  have RE := Lib.hid RE
  have ms := qr p n
  have hpn := p2 n
  have hpn2 := p2_le hn
  have e62 : (2 : Int) ^ 62 = 4611686018427387904 := by decide
  have UP := Lib.hid fun (neg : Bool) => rup_any (p / 2 ^ n) (p % 2 ^ n) (2 ^ n) m neg ms.2.1 ms.2.2 (by omega)
  have hq := q_le (x := p) (B := 4611686018427387904) n (by decide) hp.1 hp.2
  have TOP : n < 32 ∧ 1073741824 ≤ H → satV b z = halfF b - 1 ∧ satB b z = true := fun ⟨h1, h2⟩ => sat_top hA hB (by
    have e : p = 4611686018427387904 := by omega
    rw [← hz, e]
    exact far_top (by omega) m)
  have TOP := Lib.hid TOP
  have NEG : decide (p < 0) = decide (H < 0) := by congr 1; apply propext; omega
  have NEG := Lib.hid NEG
  have SH := hn
  have n1 : decide ((n : Int) < 0) = false := decide_eq_false (by omega)
  have n2 : decide (62 < (n : Int)) = false := decide_eq_false (by omega)
  have n3 : decide (62 < n) = false := decide_eq_false (by omega)
  have wHs : IntKind.i64.wrap (H * 4294967296) = H * 4294967296 := IntWalk.i64_in _ (by omega)
  have wHL : IntKind.i64.wrap (H * 4294967296 + L) = p := by rw [pHL]; exact IntWalk.i64_in _ (by omega)
  have wHL2 : IntKind.i64.wrap p = p := IntWalk.i64_in _ (by omega)
  have HP := Lib.hid pHL
  clear hz hp1 ms
  have HBa := Lib.hid hba
  have HBb := Lib.hid hbb
  have HCa := Lib.hid hca
  have HCb := Lib.hid hcb
  clear hca hcb
  go_enter Try.func47, Try.ntmps47
  go_wp2_with fail
  (with_reducible refine (CY.out _).mono ?_)
  rintro e w1 ⟨rfl, hb1⟩
  have KK : Kp w w1 [(w.heap.size, 23, #[.int .i64 b, .int .i64 s])] := ⟨((Blk.new w 23 #[.int .i64 b, .int .i64 s]).next hb1).1, below_call (below_box (Below.refl w.heap.size w) _) hb1⟩
  go_wp2_with fail
  go_loopw [14, 15, 38] (fun hi lo i wr => ((i = .int .i64 0 ∧ hi = .int .i64 0 ∧ lo = .int .i64 0) ∨ (i = .int .i64 1 ∧ hi = .int .i64 H ∧ lo = .int .i64 L)) ∧ Kp w wr [(w.heap.size, 23, #[.int .i64 b, .int .i64 s])]) (fun hi lo i _ => 1 - (intOf i).toNat)
  case atStart => exact ⟨.inl ⟨rfl, rfl, rfl⟩, by simpa using KK⟩
  case round =>
    clear KK
    obtain ⟨⟨rfl, rfl, rfl⟩ | ⟨rfl, rfl, rfl⟩, KK⟩ := hrel
    · go_wp2_with fail
      refine wp_region_held_drew (S := fun w' => (∀ i, w'.cell? ⟨w.heap.size, i, none⟩ = (#[.int .i64 b, .int .i64 s] : Array Value)[i]?) ∧ w'.cell? ⟨ba, 0, none⟩ = some (.int .i64 x) ∧ w'.cell? ⟨bb, 0, none⟩ = some (.int .i64 y)) (by kernel_rfl) ?_ (fun hHeld => ?_)
      · exact ⟨KK.drew.1.cell, KK.drew.old HBa HCa, KK.drew.old HBb HCb⟩
      replace KK := KK.drew
      refine wpAnyH_take (i := 0) (v := ?_) (by simp only [List.getElem?_toArray, List.getElem?_cons_zero]; rfl) (by kernel_rfl) (by kernel_rfl) (by kernel_rfl) (by intro _ _ _ h; exact h) (Or.inl ⟨by rfl, ?_⟩) (by assumption) ?_
      rotate_left
      · (intro w hSw; (try dsimp only at hSw); go_simp) <;> with_reducible rfl
      try simp only [Act.put, List.setIfInBounds_toArray, List.set_cons_zero, List.set_cons_succ]
      refine wpAnyH_take (i := 1) (v := ?_) (by simp only [List.getElem?_toArray, List.getElem?_cons_succ, List.getElem?_cons_zero]; rfl) (by kernel_rfl) (by kernel_rfl) (by kernel_rfl) (by intro _ _ _ h; exact h) (Or.inl ⟨by rfl, ?_⟩) (by assumption) ?_
      rotate_left
      · (intro w hSw; (try dsimp only at hSw); go_simp) <;> with_reducible rfl
      try simp only [Act.put, List.setIfInBounds_toArray, List.set_cons_zero, List.set_cons_succ]
      refine wpAnyH_take (i := 2) (v := ?_) (by simp only [List.getElem?_toArray, List.getElem?_cons_succ, List.getElem?_cons_zero]; rfl) (by kernel_rfl) (by kernel_rfl) (by kernel_rfl) (by intro _ _ _ h; exact h) (Or.inl ⟨by rfl, ?_⟩) (by assumption) ?_
      rotate_left
      · (intro w hSw; (try dsimp only at hSw); go_simp) <;> with_reducible rfl
      try simp only [Act.put, List.setIfInBounds_toArray, List.set_cons_zero, List.set_cons_succ]
      refine wpAnyH_take (i := 3) (v := ?_) (by simp only [List.getElem?_toArray, List.getElem?_cons_succ, List.getElem?_cons_zero]; rfl) (by kernel_rfl) (by kernel_rfl) (by kernel_rfl) (by intro _ _ _ h; exact h) (Or.inl ⟨by rfl, ?_⟩) (by assumption) ?_
      rotate_left
      · (intro w hSw; (try dsimp only at hSw); go_simp) <;> with_reducible rfl
      try simp only [Act.put, List.setIfInBounds_toArray, List.set_cons_zero, List.set_cons_succ]
      refine wpAnyH_take (i := 4) (v := ?_) (by simp only [List.getElem?_toArray, List.getElem?_cons_succ, List.getElem?_cons_zero]; rfl) (by kernel_rfl) (by kernel_rfl) (by kernel_rfl) (by intro _ _ _ h; exact h) (Or.inl ⟨by rfl, ?_⟩) (by assumption) ?_
      rotate_left
      · (intro w hSw; (try dsimp only at hSw); go_simp) <;> with_reducible rfl
      try simp only [Act.put, List.setIfInBounds_toArray, List.set_cons_zero, List.set_cons_succ]
      refine wpAnyH_ready (rs := [5]) (by kernel_rfl) (by simp) ?_
      refine AllReadyH.cons (by simp only [List.getElem?_toArray, List.getElem?_cons_succ, List.getElem?_cons_zero]; rfl) (fun K hK => ?_) AllReadyH.nil
      go_simp
      go_at_call 48
      (with_reducible refine (IX.out _).mono ?_)
      rintro e wz ⟨rfl, hbz⟩
      replace KK := KK.call hbz
      clear hbz
      go_wp2_with fail
      refine hK.out _ _ ?_ (fun hHeld => ?_)
      · exact ⟨KK.1.cell, KK.old HBa HCa, KK.old HBb HCb⟩
      clear hK K
      try simp only [Act.put, List.setIfInBounds_toArray, List.set_cons_zero, List.set_cons_succ]
      refine wpAnyH_take (i := 6) (v := ?_) (by simp only [List.getElem?_toArray, List.getElem?_cons_succ, List.getElem?_cons_zero]; rfl) (by kernel_rfl) (by kernel_rfl) (by kernel_rfl) (by intro _ _ _ h; exact h) (Or.inl ⟨by rfl, ?_⟩) (by assumption) ?_
      rotate_left
      · (intro w hSw; (try dsimp only at hSw); go_simp) <;> with_reducible rfl
      try simp only [Act.put, List.setIfInBounds_toArray, List.set_cons_zero, List.set_cons_succ]
      refine wpAnyH_take (i := 7) (v := ?_) (by simp only [List.getElem?_toArray, List.getElem?_cons_succ, List.getElem?_cons_zero]; rfl) (by kernel_rfl) (by kernel_rfl) (by kernel_rfl) (by intro _ _ _ h; exact h) (Or.inl ⟨by rfl, ?_⟩) (by assumption) ?_
      rotate_left
      · (intro w hSw; (try dsimp only at hSw); go_simp) <;> with_reducible rfl
      try simp only [Act.put, List.setIfInBounds_toArray, List.set_cons_zero, List.set_cons_succ]
      refine wpAnyH_take (i := 8) (v := ?_) (by simp only [List.getElem?_toArray, List.getElem?_cons_succ, List.getElem?_cons_zero]; rfl) (by kernel_rfl) (by kernel_rfl) (by kernel_rfl) (by intro _ _ _ h; exact h) (Or.inl ⟨by rfl, ?_⟩) (by assumption) ?_
      rotate_left
      · (intro w hSw; (try dsimp only at hSw); go_simp) <;> with_reducible rfl
      try simp only [Act.put, List.setIfInBounds_toArray, List.set_cons_zero, List.set_cons_succ]
      refine wpAnyH_take (i := 9) (v := ?_) (by simp only [List.getElem?_toArray, List.getElem?_cons_succ, List.getElem?_cons_zero]; rfl) (by kernel_rfl) (by kernel_rfl) (by kernel_rfl) (by intro _ _ _ h; exact h) (Or.inl ⟨by rfl, ?_⟩) (by assumption) ?_
      rotate_left
      · (intro w hSw; (try dsimp only at hSw); go_simp) <;> with_reducible rfl
      try simp only [Act.put, List.setIfInBounds_toArray, List.set_cons_zero, List.set_cons_succ]
      refine wpAnyH_take (i := 10) (v := ?_) (by simp only [List.getElem?_toArray, List.getElem?_cons_succ, List.getElem?_cons_zero]; rfl) (by kernel_rfl) (by kernel_rfl) (by kernel_rfl) (by intro _ _ _ h; exact h) (Or.inl ⟨by rfl, ?_⟩) (by assumption) ?_
      rotate_left
      · (intro w hSw; (try dsimp only at hSw); go_simp) <;> with_reducible rfl
      try simp only [Act.put, List.setIfInBounds_toArray, List.set_cons_zero, List.set_cons_succ]
      refine wpAnyH_take (i := 11) (v := ?_) (by simp only [List.getElem?_toArray, List.getElem?_cons_succ, List.getElem?_cons_zero]; rfl) (by kernel_rfl) (by kernel_rfl) (by kernel_rfl) (by intro _ _ _ h; exact h) (Or.inl ⟨by rfl, ?_⟩) (by assumption) ?_
      rotate_left
      · (intro w hSw; (try dsimp only at hSw); go_simp) <;> with_reducible rfl
      try simp only [Act.put, List.setIfInBounds_toArray, List.set_cons_zero, List.set_cons_succ]
      refine wpAnyH_take (i := 12) (v := ?_) (by simp only [List.getElem?_toArray, List.getElem?_cons_succ, List.getElem?_cons_zero]; rfl) (by kernel_rfl) (by kernel_rfl) (by kernel_rfl) (by intro _ _ _ h; exact h) (Or.inl ⟨by rfl, ?_⟩) (by assumption) ?_
      rotate_left
      · (intro w hSw; (try dsimp only at hSw); go_simp) <;> with_reducible rfl
      try simp only [Act.put, List.setIfInBounds_toArray, List.set_cons_zero, List.set_cons_succ]
      refine wpAnyH_ready (rs := [13]) (by kernel_rfl) (by simp) ?_
      refine AllReadyH.cons (by simp only [List.getElem?_toArray, List.getElem?_cons_succ, List.getElem?_cons_zero]; rfl) (fun K hK => ?_) AllReadyH.nil
      go_simp
      go_at_call 48
      (with_reducible refine (IY.out _).mono ?_)
      rintro e wz ⟨rfl, hbz⟩
      replace KK := KK.call hbz
      clear hbz
      go_wp2_with fail
      refine hK.out _ _ ?_ (fun hHeld => ?_)
      · exact ⟨KK.1.cell, KK.old HBa HCa, KK.old HBb HCb⟩
      clear hK K
      try simp only [Act.put, List.setIfInBounds_toArray, List.set_cons_zero, List.set_cons_succ]
      refine wpAnyH_take (i := 14) (v := ?_) (by simp only [List.getElem?_toArray, List.getElem?_cons_succ, List.getElem?_cons_zero]; rfl) (by kernel_rfl) (by kernel_rfl) (by kernel_rfl) (by intro _ _ _ h; exact h) (Or.inl ⟨by rfl, ?_⟩) (by assumption) ?_
      rotate_left
      · (intro w hSw; (try dsimp only at hSw); go_simp) <;> with_reducible rfl
      try simp only [Act.put, List.setIfInBounds_toArray, List.set_cons_zero, List.set_cons_succ]
      refine wpAnyH_take (i := 15) (v := ?_) (by simp only [List.getElem?_toArray, List.getElem?_cons_succ, List.getElem?_cons_zero]; rfl) (by kernel_rfl) (by kernel_rfl) (by kernel_rfl) (by intro _ _ _ h; exact h) (Or.inl ⟨by rfl, ?_⟩) (by assumption) ?_
      rotate_left
      · (intro w hSw; (try dsimp only at hSw); go_simp) <;> with_reducible rfl
      try simp only [Act.put, List.setIfInBounds_toArray, List.set_cons_zero, List.set_cons_succ]
      refine wpAnyH_done (by kernel_rfl) ?_ _
      obtain ⟨cF, fF, zF⟩ := And.intro KK.1.cell (And.intro KK.1.frozen KK.1.lt)
      have ca := KK.old HBa HCa
      have cb := KK.old HBb HCb
      go_wp2_with fail
      go_quiet (fail)
      have KK := KK.drewN nq
      generalize _root_.Go.World.drewN _ nq = wg at KK ⊢
      clear ca cb
      have ca := KK.old HBa HCa
      have cb := KK.old HBb HCb
      go_wp2_with fail
      go_quiet (fail)
      have KK := KK.drewN nq
      generalize _root_.Go.World.drewN _ nq = wh at KK ⊢
      go_wp2_with fail
      exact ⟨⟨.inr ⟨rfl, rfl, rfl⟩, KK⟩, by simp [intOf]⟩
    · obtain ⟨cF, fF, zF⟩ := And.intro KK.1.cell (And.intro KK.1.frozen KK.1.lt)
      clear wp
      by_cases c1 : n < 32 ∧ 1073741824 ≤ H
      · have tt := TOP.out c1
        have TV := Lib.hid tt
        clear tt
        have g1 : decide ((n : Int) < 32) = true := decide_eq_true (by omega)
        have g2 : decide (n < 32) = true := decide_eq_true (by omega)
        have g3 : decide (1073741824 ≤ H) = true := decide_eq_true c1.2
        go_wp2_with fail
        (with_reducible refine (rmode_yes _ hm hm2 _).mono ?_)
        rintro e w' ⟨rfl, rfl⟩
        go_wp2_with fail
        (with_reducible refine (GR.out _).mono ?_)
        rintro e w9 ⟨rfl, hb9⟩
        replace KK := KK.call hb9
        go_wp2_with fail
        refine bodyPost_ret (v := .tuple #[.int .i64 (halfF b - 1), .bool true, .int .i64 0]) ?_ rfl ⟨by rw [TV.out.1, TV.out.2], ?_⟩
        · simp [results, Try.results47, go_sem]
        · exact KK.below
      · by_cases c2 : n < 31
        · have g1 : decide ((n : Int) < 32) = true := decide_eq_true (by omega)
          have g2 : decide (n < 32) = true := decide_eq_true (by omega)
          have g3 : decide (1073741824 ≤ H) = false := decide_eq_false (by omega)
          have g4 : decide ((n : Int) < 31) = true := decide_eq_true (by omega)
          have g5 : decide (n < 31) = true := decide_eq_true (by omega)
          have g6 : decide (H < -1073741824) = false := decide_eq_false (by omega)
          go_wp2_with fail
          (with_reducible refine (rmode_yes _ hm hm2 _).mono ?_)
          rintro e w' ⟨rfl, rfl⟩
          go_wp2_with fail
          have KD := KK.drew
          have bD := KD.1.cell
          go_region_held3 (fun w' => ∀ i, w'.cell? ⟨w.heap.size, i, none⟩ = (#[.int .i64 b, .int .i64 s] : Array Value)[i]?)
            (first
              | with_reducible exact bD
              | with_reducible exact bG
              | fail)
            (first
              | (go_at_call 46; (with_reducible refine (RO.out _).mono ?_); rintro e w' ⟨rfl, rfl⟩)
              | (go_at_call 30; (with_reducible refine (SA.out _).mono ?_); rintro e w9 ⟨rfl, hb9⟩; have KE := KD.call hb9; have bG := KE.1.cell))
          have KK := KE
          go_wp2_with fail
          refine bodyPost_ret (v := .tuple #[.int .i64 (satV b z), .bool (satB b z), .int .i64 0]) ?_ rfl ⟨rfl, ?_⟩
          · simp [results, Try.results47, go_sem]
          · exact KK.below
        · obtain c3 : n = 31 := by omega
          · have N31 : (n : Int) = 31 := by omega
            obtain ⟨q, hqn⟩ : ∃ q, p / 2 ^ n = q := ⟨_, rfl⟩
            obtain ⟨r, hrn⟩ : ∃ r, p % 2 ^ n = r := ⟨_, rfl⟩
            subst c3
            have e31 : (2 : Int) ^ 31 = 2147483648 := by decide
            have k1 : 2 * H + L / 2147483648 = q := by rw [e31] at hqn; omega
            have k2 : L % 2147483648 = r := by rw [e31] at hrn; omega
            have v1 : IntKind.i64.wrap (2 * H) = 2 * H := IntWalk.i64_in _ (by omega)
            have v2 : IntKind.i64.wrap (2 * H + L / 2147483648) = q := by rw [k1]; exact IntWalk.i64_in _ (by omega)
            have v22 : IntKind.i64.wrap q = q := IntWalk.i64_in _ (by omega)
            have v3 : bits .and .i64 L 2147483647 = r := by
              have := bits_mask 31 (by decide) L
              rw [← k2]
              simpa using this
            have v4 : IntKind.i64.wrap r = r := IntWalk.i64_in _ (by omega)
            have g3 : decide (1073741824 ≤ H) = false := decide_eq_false (by omega)
            have UPq := UP.out (decide (H < 0))
            have RE := RE.out
            rw [NEG.out] at RE
            rw [hqn, hrn, e31] at UPq
            rw [hqn, hrn, e31] at RE
            rw [hqn] at hq
            have wq1 : IntKind.i64.wrap (q + 1) = q + 1 := IntWalk.i64_in _ (by omega)
            have two : (upR q r 2147483648 m (decide (H < 0)) = true ∧ q + 1 = z) ∨ (upR q r 2147483648 m (decide (H < 0)) = false ∧ q = z) := by
              rcases RE with ⟨u, e⟩ | ⟨u, e⟩
              · exact .inl ⟨u, e.symm⟩
              · exact .inr ⟨by rw [← Bool.not_eq_true]; exact u, e.symm⟩
            clear hqn hrn RE hq
            rcases two with ⟨u, rfl⟩ | ⟨u, rfl⟩
            all_goals
              rw [u] at UPq
              have UPq := Lib.hid UPq
              clear u
              go_wp2_with fail
              (with_reducible refine (rmode_yes _ hm hm2 _).mono ?_)
              rintro e w' ⟨rfl, rfl⟩
              go_wp2_with fail
              (with_reducible refine (UPq.out _).mono ?_)
              rintro e w' ⟨rfl, rfl⟩
              go_wp2_with fail
              (with_reducible refine (SA.out _).mono ?_)
              rintro e w9 ⟨rfl, hb9⟩
              replace KK := KK.call hb9
              go_wp2_with fail
              refine bodyPost_ret (v := .tuple #[.int .i64 (satV b _), .bool (satB b _), .int .i64 0]) ?_ rfl ⟨rfl, ?_⟩
              · simp [results, Try.results47, go_sem]
              · exact KK.below

end Go.Proofs.Ythldpmfobhemkaa
