/- Check, given, Formal and the sum over a row of drives. -/
import Derived.Test.YtfopcmiphklcdaaLeafs
namespace Go.Proofs.Ytfopcmiphklcdaa
open Go.RowKit

/-- A slice of drives: its cells, wherever there is one. -/
def Row (w : World) (A : Option Addr) (k bl ol : Nat) (L : Nat → Dr) : Prop :=
  0 < k → A = some ⟨bl, ol, none⟩ ∧ bl < w.heap.size ∧ ∀ i, i < k → ∀ j, j < 4 → w.cell? ⟨bl, ol + i * 4 + j, none⟩ = (vD (L i))[j]?
section
variable {w W : World} {A : Option Addr} {k bl ol : Nat} {L : Nat → Dr}
theorem Row.mono (h : Row w A k bl ol L) (hb : Below w.heap.size w W) : Row W A k bl ol L := fun hk => by
  obtain ⟨h1, h2, h3⟩ := h hk
  exact ⟨h1, Nat.lt_of_lt_of_le h2 hb.size, fun i hi j hj => (hb.cell (p := ⟨bl, ol + i * 4 + j, none⟩) h2).trans (h3 i hi j hj)⟩
theorem Row.at (h : Row w A k bl ol L) (hb : Below w.heap.size w W) {i : Nat} (hi : i < k) :
    A = some ⟨bl, ol, none⟩ ∧ W.cell? ⟨bl, ol + i * 4, none⟩ = some (.int .i64 (L i).a) ∧ W.cell? ⟨bl, ol + i * 4 + 1, none⟩ = some (.int .i64 (L i).b) ∧ W.cell? ⟨bl, ol + i * 4 + 2, none⟩ = some (.int .i64 (L i).c) ∧ W.cell? ⟨bl, ol + i * 4 + 3, none⟩ = some (.int .i64 (L i).d) := by
  obtain ⟨h1, h2, h3⟩ := h.mono hb (by omega)
  exact ⟨h1, h3 i hi 0 (by decide), h3 i hi 1 (by decide), h3 i hi 2 (by decide), h3 i hi 3 (by decide)⟩
end
def okL (k : Nat) (L : Nat → Dr) : Prop := ∀ i, i < k → okD (L i)
open Classical in
noncomputable def chk (k : Nat) (L : Nat → Dr) : Int := if 8 < k then 4 else if okL k L then 0 else 3
theorem chk_bad {k : Nat} {L : Nat → Dr} (hk : k ≤ 8) {i : Nat} (hi : i < k) (h : ¬ okD (L i)) : chk k L = 3 := by
  unfold chk
  rw [if_neg (by omega), if_neg (fun x => h (x i hi))]
theorem chk_ok {k : Nat} {L : Nat → Dr} (hk : k ≤ 8) (h : okL k L) : chk k L = 0 := by
  unfold chk
  rw [if_neg (by omega), if_pos h]
theorem chk_big {k : Nat} {L : Nat → Dr} (hk : 8 < k) : chk k L = 4 := by
  unfold chk
  rw [if_pos hk]
theorem chk_zero {k : Nat} {L : Nat → Dr} : chk k L = 0 ↔ k ≤ 8 ∧ okL k L := by
  unfold chk
  split
  · constructor
    · intro h; omega
    · intro h; omega
  · split
    · rename_i h
      exact ⟨fun _ => ⟨by omega, h⟩, fun _ => rfl⟩
    · rename_i h
      constructor
      · intro h; omega
      · intro h2; exact absurd h2.2 h
theorem okD_cases (x : Dr) : (¬ okD x ∧ decide (x.a < 0) = true) ∨ (¬ okD x ∧ decide (x.a < 0) = false ∧ decide (x.b < x.a) = true) ∨ (¬ okD x ∧ decide (x.a < 0) = false ∧ decide (x.b < x.a) = false ∧ decide (1073741824 < x.b) = true) ∨ (¬ okD x ∧ decide (x.a < 0) = false ∧ decide (x.b < x.a) = false ∧ decide (1073741824 < x.b) = false ∧ decide (x.c < 0) = true) ∨ (¬ okD x ∧ decide (x.a < 0) = false ∧ decide (x.b < x.a) = false ∧ decide (1073741824 < x.b) = false ∧ decide (x.c < 0) = false ∧ decide (1073741824 < x.c) = true) ∨ (¬ okD x ∧ decide (x.a < 0) = false ∧ decide (x.b < x.a) = false ∧ decide (1073741824 < x.b) = false ∧ decide (x.c < 0) = false ∧ decide (1073741824 < x.c) = false ∧ decide (x.d < 1) = true) ∨ (¬ okD x ∧ decide (x.a < 0) = false ∧ decide (x.b < x.a) = false ∧ decide (1073741824 < x.b) = false ∧ decide (x.c < 0) = false ∧ decide (1073741824 < x.c) = false ∧ decide (x.d < 1) = false ∧ decide (1000 < x.d) = true) ∨ (okD x ∧ decide (x.a < 0) = false ∧ decide (x.b < x.a) = false ∧ decide (1073741824 < x.b) = false ∧ decide (x.c < 0) = false ∧ decide (1073741824 < x.c) = false ∧ decide (x.d < 1) = false ∧ decide (1000 < x.d) = false) := by
  by_cases h0 : x.a < 0
  · refine .inl ⟨fun h => ?_, decide_eq_true h0⟩
    unfold okD at h
    omega
  by_cases h1 : x.b < x.a
  · refine .inr (.inl ⟨fun h => ?_, decide_eq_false h0, decide_eq_true h1⟩)
    unfold okD at h
    omega
  by_cases h2 : 1073741824 < x.b
  · refine .inr (.inr (.inl ⟨fun h => ?_, decide_eq_false h0, decide_eq_false h1, decide_eq_true h2⟩))
    unfold okD at h
    omega
  by_cases h3 : x.c < 0
  · refine .inr (.inr (.inr (.inl ⟨fun h => ?_, decide_eq_false h0, decide_eq_false h1, decide_eq_false h2, decide_eq_true h3⟩)))
    unfold okD at h
    omega
  by_cases h4 : 1073741824 < x.c
  · refine .inr (.inr (.inr (.inr (.inl ⟨fun h => ?_, decide_eq_false h0, decide_eq_false h1, decide_eq_false h2, decide_eq_false h3, decide_eq_true h4⟩))))
    unfold okD at h
    omega
  by_cases h5 : x.d < 1
  · refine .inr (.inr (.inr (.inr (.inr (.inl ⟨fun h => ?_, decide_eq_false h0, decide_eq_false h1, decide_eq_false h2, decide_eq_false h3, decide_eq_false h4, decide_eq_true h5⟩)))))
    unfold okD at h
    omega
  by_cases h6 : 1000 < x.d
  · refine .inr (.inr (.inr (.inr (.inr (.inr (.inl ⟨fun h => ?_, decide_eq_false h0, decide_eq_false h1, decide_eq_false h2, decide_eq_false h3, decide_eq_false h4, decide_eq_false h5, decide_eq_true h6⟩))))))
    unfold okD at h
    omega
  refine .inr (.inr (.inr (.inr (.inr (.inr (.inr (⟨?_, decide_eq_false h0, decide_eq_false h1, decide_eq_false h2, decide_eq_false h3, decide_eq_false h4, decide_eq_false h5, decide_eq_false h6⟩)))))))
  unfold okD
  omega

set_option maxHeartbeats 4000000 in
theorem Check_any (A : Option Addr) (k cl bl ol : Nat) (L : Nat → Dr) (w : World) (hR : Row w A k bl ol L) : Calls Try.prog 15 #[.slice A k cl] w fun e w' => e = .returned (errV (chk k L)) ∧ Below w.heap.size w w' := by
  by_cases hk : 8 < k
  · rw [chk_big hk]
    have g1 : decide ((8 : Int) < (k : Int)) = true := decide_eq_true (by omega)
    have g2 : decide (8 < k) = true := decide_eq_true hk
    go_enter Try.func15, Try.ntmps15
    go_wp2_with fail
    go_ret
    exact ⟨rfl, Below.refl _ _⟩
  · have k1 : decide ((8 : Int) < (k : Int)) = false := decide_eq_false (by omega)
    have k2 : decide (8 < k) = false := decide_eq_false hk
    have KK := Kp.base w
    have HR := Lib.hid hR
    have BAD := Lib.hid (fun i hi h => @chk_bad k L (by omega) i hi h)
    have OK := Lib.hid (fun h => @chk_ok k L (by omega) h)
    clear hR
    obtain ⟨cd, hcd⟩ : ∃ cd, chk k L = cd := ⟨_, rfl⟩
    rw [hcd] at BAD OK ⊢
    clear hcd
    go_enter Try.func15, Try.ntmps15
    go_wp2_with fail
    go_loopw [11] (fun i wr => ∃ j : Nat, i = .int .i64 (j : Int) ∧ j ≤ k ∧ okL j L ∧ Kp w wr []) (fun i _ => k - (intOf i).toNat)
    case atStart => exact ⟨0, rfl, Nat.zero_le _, fun i hi => absurd hi (by omega), KK⟩
    case round =>
      clear KK
      obtain ⟨j, rfl, hle, hall, KK⟩ := hrel
      replace hall := Lib.hid hall
      by_cases hlt : j < k
      · have g1 : decide ((j : Int) < (k : Int)) = true := decide_eq_true (by omega)
        have g2 : decide (j < k) = true := decide_eq_true hlt
        obtain ⟨rfl, c0, c1, c2, c3⟩ := HR.out.at KK.below hlt
        obtain ⟨x, hx⟩ : ∃ x, L j = x := ⟨_, rfl⟩
        rw [hx] at c0 c1 c2 c3
        have BJ := Lib.hid (BAD.out j hlt)
        have hx := Lib.hid hx
        have KA := KK.alloc (.cells #[.int .i64 x.a, .int .i64 x.b, .int .i64 x.c, .int .i64 x.d] 40)
        rcases okD_cases x with ⟨hbad, t0⟩ | ⟨hbad, t0, t1⟩ | ⟨hbad, t0, t1, t2⟩ | ⟨hbad, t0, t1, t2, t3⟩ | ⟨hbad, t0, t1, t2, t3, t4⟩ | ⟨hbad, t0, t1, t2, t3, t4, t5⟩ | ⟨hbad, t0, t1, t2, t3, t4, t5, t6⟩ | ⟨hok, t0, t1, t2, t3, t4, t5, t6⟩
        · replace hbad := Lib.hid hbad
          go_wp2_with fail
          refine bodyPost_ret (v := .iface 66 (.int .i64 3)) ?_ rfl ⟨by rw [BJ.out (by rw [hx.out]; exact hbad.out)]; rfl, ?_⟩
          · simp [results, Try.results15, go_sem]
          · exact KA
        · replace hbad := Lib.hid hbad
          go_wp2_with fail
          refine bodyPost_ret (v := .iface 66 (.int .i64 3)) ?_ rfl ⟨by rw [BJ.out (by rw [hx.out]; exact hbad.out)]; rfl, ?_⟩
          · simp [results, Try.results15, go_sem]
          · exact KA
        · replace hbad := Lib.hid hbad
          go_wp2_with fail
          refine bodyPost_ret (v := .iface 66 (.int .i64 3)) ?_ rfl ⟨by rw [BJ.out (by rw [hx.out]; exact hbad.out)]; rfl, ?_⟩
          · simp [results, Try.results15, go_sem]
          · exact KA
        · replace hbad := Lib.hid hbad
          go_wp2_with fail
          refine bodyPost_ret (v := .iface 66 (.int .i64 3)) ?_ rfl ⟨by rw [BJ.out (by rw [hx.out]; exact hbad.out)]; rfl, ?_⟩
          · simp [results, Try.results15, go_sem]
          · exact KA
        · replace hbad := Lib.hid hbad
          go_wp2_with fail
          refine bodyPost_ret (v := .iface 66 (.int .i64 3)) ?_ rfl ⟨by rw [BJ.out (by rw [hx.out]; exact hbad.out)]; rfl, ?_⟩
          · simp [results, Try.results15, go_sem]
          · exact KA
        · replace hbad := Lib.hid hbad
          go_wp2_with fail
          refine bodyPost_ret (v := .iface 66 (.int .i64 3)) ?_ rfl ⟨by rw [BJ.out (by rw [hx.out]; exact hbad.out)]; rfl, ?_⟩
          · simp [results, Try.results15, go_sem]
          · exact KA
        · replace hbad := Lib.hid hbad
          go_wp2_with fail
          refine bodyPost_ret (v := .iface 66 (.int .i64 3)) ?_ rfl ⟨by rw [BJ.out (by rw [hx.out]; exact hbad.out)]; rfl, ?_⟩
          · simp [results, Try.results15, go_sem]
          · exact KA
        · have hall2 : okL (j + 1) L := fun i hi => by
            by_cases e : i = j
            · subst e; rw [hx.out]; exact hok
            · exact hall.out i (by omega)
          replace hall2 := Lib.hid hall2
          clear hok
          go_wp2_with fail
          exact ⟨⟨j + 1, by go_num, by omega, hall2.out, KA⟩, by simp [intOf]; omega⟩
      · have g1 : decide ((j : Int) < (k : Int)) = false := decide_eq_false (by omega)
        have g2 : decide (j < k) = false := decide_eq_false hlt
        have e0 : j = k := by omega
        have OK := Lib.hid (OK.out (e0 ▸ hall.out))
        clear e0
        go_wp2_with fail
        refine bodyPost_ret (v := .nilIface) ?_ rfl ⟨by rw [OK.out]; rfl, ?_⟩
        · simp [results, Try.results15, go_sem]
        · exact KK

set_option maxHeartbeats 4000000 in
theorem rCheck_any (A : Option Addr) (k cl bl ol : Nat) (L : Nat → Dr) (w : World) (hR : Row w A k bl ol L) : Calls Try.prog 16 #[.slice A k cl] w fun e w' => e = .returned (.int .i64 (chk k L)) ∧ Below w.heap.size w w' := by
  by_cases hk : 8 < k
  · rw [chk_big hk]
    have g1 : decide ((8 : Int) < (k : Int)) = true := decide_eq_true (by omega)
    have g2 : decide (8 < k) = true := decide_eq_true hk
    go_enter Try.func16, Try.ntmps16
    go_wp2_with fail
    go_ret
    exact ⟨rfl, Below.refl _ _⟩
  · have k1 : decide ((8 : Int) < (k : Int)) = false := decide_eq_false (by omega)
    have k2 : decide (8 < k) = false := decide_eq_false hk
    have KK := Kp.base w
    have HR := Lib.hid hR
    have BAD := Lib.hid (fun i hi h => @chk_bad k L (by omega) i hi h)
    have OK := Lib.hid (fun h => @chk_ok k L (by omega) h)
    clear hR
    obtain ⟨cd, hcd⟩ : ∃ cd, chk k L = cd := ⟨_, rfl⟩
    rw [hcd] at BAD OK ⊢
    clear hcd
    go_enter Try.func16, Try.ntmps16
    go_wp2_with fail
    go_loopw [10] (fun i wr => ∃ j : Nat, i = .int .i64 (j : Int) ∧ j ≤ k ∧ okL j L ∧ Kp w wr []) (fun i _ => k - (intOf i).toNat)
    case atStart => exact ⟨0, rfl, Nat.zero_le _, fun i hi => absurd hi (by omega), KK⟩
    case round =>
      clear KK
      obtain ⟨j, rfl, hle, hall, KK⟩ := hrel
      replace hall := Lib.hid hall
      by_cases hlt : j < k
      · have g1 : decide ((j : Int) < (k : Int)) = true := decide_eq_true (by omega)
        have g2 : decide (j < k) = true := decide_eq_true hlt
        obtain ⟨rfl, c0, c1, c2, c3⟩ := HR.out.at KK.below hlt
        obtain ⟨x, hx⟩ : ∃ x, L j = x := ⟨_, rfl⟩
        rw [hx] at c0 c1 c2 c3
        have BJ := Lib.hid (BAD.out j hlt)
        have hx := Lib.hid hx
        have KA := KK.alloc (.cells #[.int .i64 x.a, .int .i64 x.b, .int .i64 x.c, .int .i64 x.d] 40)
        rcases okD_cases x with ⟨hbad, t0⟩ | ⟨hbad, t0, t1⟩ | ⟨hbad, t0, t1, t2⟩ | ⟨hbad, t0, t1, t2, t3⟩ | ⟨hbad, t0, t1, t2, t3, t4⟩ | ⟨hbad, t0, t1, t2, t3, t4, t5⟩ | ⟨hbad, t0, t1, t2, t3, t4, t5, t6⟩ | ⟨hok, t0, t1, t2, t3, t4, t5, t6⟩
        · replace hbad := Lib.hid hbad
          go_wp2_with fail
          refine bodyPost_ret (v := .int .i64 3) ?_ rfl ⟨by rw [BJ.out (by rw [hx.out]; exact hbad.out)], ?_⟩
          · simp [results, Try.results16, go_sem]
          · exact KA
        · replace hbad := Lib.hid hbad
          go_wp2_with fail
          refine bodyPost_ret (v := .int .i64 3) ?_ rfl ⟨by rw [BJ.out (by rw [hx.out]; exact hbad.out)], ?_⟩
          · simp [results, Try.results16, go_sem]
          · exact KA
        · replace hbad := Lib.hid hbad
          go_wp2_with fail
          refine bodyPost_ret (v := .int .i64 3) ?_ rfl ⟨by rw [BJ.out (by rw [hx.out]; exact hbad.out)], ?_⟩
          · simp [results, Try.results16, go_sem]
          · exact KA
        · replace hbad := Lib.hid hbad
          have WA := within_any x.c 0 1073741824
          rw [show (decide (0 ≤ x.c) && decide (x.c ≤ 1073741824)) = false by simp at *; omega] at WA
          replace WA := Lib.hid WA
          clear t3
          go_wp2_with fail
          (with_reducible refine (WA.out _).mono ?_)
          rintro e w' ⟨rfl, rfl⟩
          go_wp2_with fail
          refine bodyPost_ret (v := .int .i64 3) ?_ rfl ⟨by rw [BJ.out (by rw [hx.out]; exact hbad.out)], ?_⟩
          · simp [results, Try.results16, go_sem]
          · exact KA
        · replace hbad := Lib.hid hbad
          have WA := within_any x.c 0 1073741824
          rw [show (decide (0 ≤ x.c) && decide (x.c ≤ 1073741824)) = false by simp at *; omega] at WA
          replace WA := Lib.hid WA
          clear t3 t4
          go_wp2_with fail
          (with_reducible refine (WA.out _).mono ?_)
          rintro e w' ⟨rfl, rfl⟩
          go_wp2_with fail
          refine bodyPost_ret (v := .int .i64 3) ?_ rfl ⟨by rw [BJ.out (by rw [hx.out]; exact hbad.out)], ?_⟩
          · simp [results, Try.results16, go_sem]
          · exact KA
        · replace hbad := Lib.hid hbad
          have WA := within_any x.c 0 1073741824
          rw [show (decide (0 ≤ x.c) && decide (x.c ≤ 1073741824)) = true by simp at *; omega] at WA
          replace WA := Lib.hid WA
          have WB := within_any x.d 1 1000
          rw [show (decide (1 ≤ x.d) && decide (x.d ≤ 1000)) = false by simp at *; omega] at WB
          replace WB := Lib.hid WB
          clear t3 t4 t5
          go_wp2_with fail
          (with_reducible refine (WA.out _).mono ?_)
          rintro e w' ⟨rfl, rfl⟩
          go_wp2_with fail
          (with_reducible refine (WB.out _).mono ?_)
          rintro e w' ⟨rfl, rfl⟩
          go_wp2_with fail
          refine bodyPost_ret (v := .int .i64 3) ?_ rfl ⟨by rw [BJ.out (by rw [hx.out]; exact hbad.out)], ?_⟩
          · simp [results, Try.results16, go_sem]
          · exact KA
        · replace hbad := Lib.hid hbad
          have WA := within_any x.c 0 1073741824
          rw [show (decide (0 ≤ x.c) && decide (x.c ≤ 1073741824)) = true by simp at *; omega] at WA
          replace WA := Lib.hid WA
          have WB := within_any x.d 1 1000
          rw [show (decide (1 ≤ x.d) && decide (x.d ≤ 1000)) = false by simp at *; omega] at WB
          replace WB := Lib.hid WB
          clear t3 t4 t5 t6
          go_wp2_with fail
          (with_reducible refine (WA.out _).mono ?_)
          rintro e w' ⟨rfl, rfl⟩
          go_wp2_with fail
          (with_reducible refine (WB.out _).mono ?_)
          rintro e w' ⟨rfl, rfl⟩
          go_wp2_with fail
          refine bodyPost_ret (v := .int .i64 3) ?_ rfl ⟨by rw [BJ.out (by rw [hx.out]; exact hbad.out)], ?_⟩
          · simp [results, Try.results16, go_sem]
          · exact KA
        · have hall2 : okL (j + 1) L := fun i hi => by
            by_cases e : i = j
            · subst e; rw [hx.out]; exact hok
            · exact hall.out i (by omega)
          replace hall2 := Lib.hid hall2
          clear hok
          have WA := within_any x.c 0 1073741824
          rw [show (decide (0 ≤ x.c) && decide (x.c ≤ 1073741824)) = true by simp at *; omega] at WA
          replace WA := Lib.hid WA
          have WB := within_any x.d 1 1000
          rw [show (decide (1 ≤ x.d) && decide (x.d ≤ 1000)) = true by simp at *; omega] at WB
          replace WB := Lib.hid WB
          clear t3 t4 t5 t6
          go_wp2_with fail
          (with_reducible refine (WA.out _).mono ?_)
          rintro e w' ⟨rfl, rfl⟩
          go_wp2_with fail
          (with_reducible refine (WB.out _).mono ?_)
          rintro e w' ⟨rfl, rfl⟩
          go_wp2_with fail
          exact ⟨⟨j + 1, by go_num, by omega, hall2.out, KA⟩, by simp [intOf]; omega⟩
      · have g1 : decide ((j : Int) < (k : Int)) = false := decide_eq_false (by omega)
        have g2 : decide (j < k) = false := decide_eq_false hlt
        have e0 : j = k := by omega
        have OK := Lib.hid (OK.out (e0 ▸ hall.out))
        clear e0
        go_wp2_with fail
        refine bodyPost_ret (v := .int .i64 0) ?_ rfl ⟨by rw [OK.out], ?_⟩
        · simp [results, Try.results16, go_sem]
        · exact KK

end Go.Proofs.Ytfopcmiphklcdaa
