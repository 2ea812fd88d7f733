/- The walks of layer 33's Code, Speed and of the reference's Code, Angle, Speed. -/
import Derived.Test.YtehkmnkbmhldgaaDoorAngle
namespace Go.Proofs.YtehkmnkbmhldgaaDoor
open Go.RowKit

/-- The sector of an angle from 0 to 65535. -/
def secN (a : Int) : Nat := if a < 10923 then 0 else if a < 21846 then 1 else if a < 32768 then 2 else if a < 43691 then 3 else if a < 54614 then 4 else 5
/-- The code at an angle. -/
def codeF (x : Int) : Int := codL (secN (x % 65536))
theorem secN_lt (a : Int) : secN a < 6 := by unfold secN; repeat' split
                                             all_goals omega
theorem secN_uniq {a : Int} : ∀ {k : Nat}, k < 6 → edgL k ≤ a → a < edgL (k + 1) → a < 65536 → secN a = k
  | 0, _, h, h2, _ => by simp only [edgL] at h h2; unfold secN; rw [if_pos (by omega)]
  | 1, _, h, h2, _ => by simp only [edgL] at h h2; unfold secN; rw [if_neg (by omega), if_pos (by omega)]
  | 2, _, h, h2, _ => by simp only [edgL] at h h2; unfold secN; rw [if_neg (by omega), if_neg (by omega), if_pos (by omega)]
  | 3, _, h, h2, _ => by simp only [edgL] at h h2; unfold secN; rw [if_neg (by omega), if_neg (by omega), if_neg (by omega), if_pos (by omega)]
  | 4, _, h, h2, _ => by simp only [edgL] at h h2; unfold secN; rw [if_neg (by omega), if_neg (by omega), if_neg (by omega), if_neg (by omega), if_pos (by omega)]
  | 5, _, h, h2, _ => by simp only [edgL] at h h2; unfold secN; rw [if_neg (by omega), if_neg (by omega), if_neg (by omega), if_neg (by omega), if_neg (by omega)]
theorem secF_codeF (x : Int) : secF (codeF x) = secN (x % 65536) := secF_codL _ (secN_lt _)

set_option maxHeartbeats 400000 in
theorem Code_any (x : Int) (w : World) (T : Tabs w) : Calls Tryd.prog 13 #[.int .i64 x] w fun e w' => e = .returned (.int .i64 (codeF x)) ∧ w = w' := by
  have eb : bits .and .i64 x 65535 = x % 65536 := bits_mask 16 (by decide) x
  have HC := Lib.hid (show codeF x = codL (secN (x % 65536)) from rfl)
  have a0 : 0 ≤ x % 65536 := by omega
  have a1 : x % 65536 < 65536 := by omega
  generalize codeF x = y at *
  go_enter Tryd.func13, Tryd.ntmps13
  go_wp2_with fail
  clear eb
  generalize x % 65536 = a at *
  go_loopw [4] (fun i wr => ∃ k : Nat, k < 6 ∧ edgL k ≤ a ∧ i = .int .i64 k ∧ wr = w)
    (fun i _ => 6 - (intOf i).toNat)
  case atStart => exact ⟨0, by omega, a0, rfl, rfl⟩
  case round =>
    obtain ⟨k, hk, hle, rfl, rfl⟩ := hrel
    have c0 : wr.cell? ⟨0, k + 1, none⟩ = some (.int .i64 (edgL (k + 1))) := T.edge (k + 1) (by omega)
    have c1 : wr.cell? ⟨1, k, none⟩ = some (.int .i64 (codL k)) := T.code k hk
    by_cases h : edgL (k + 1) ≤ a
    · have h5 : k + 1 < 6 := by
        by_cases h5 : k = 5
        · subst h5
          simp only [edgL] at h
          omega
        · omega
      have H := Lib.hid h
      go_wp2_with fail
      exact ⟨⟨k + 1, h5, H.out, by go_num, trivial⟩, by simp [intOf]; omega⟩
    · have e := Lib.hid (secN_uniq hk hle (by omega) a1)
      go_wp2_with fail
      go_ret
      exact ⟨ret_int (by rw [HC.out, e.out]), rfl⟩

set_option maxHeartbeats 400000 in
theorem rCode_any (x : Int) (w : World) : Calls Tryd.prog 15 #[.int .i64 x] w fun e w' => e = .returned (.int .i64 (codeF x)) ∧ Below w.heap.size w w' := by
  have HC := Lib.hid (show codeF x = codL (secN (x % 65536)) from rfl)
  have a0 : 0 ≤ x % 65536 := by omega
  have a1 : x % 65536 < 65536 := by omega
  generalize codeF x = y at *
  go_enter Tryd.func15, Tryd.ntmps15
  go_wp2_with (go_at_call 28; (with_reducible refine (mod_any _ _ (by decide) (by decide) _).mono ?_); rintro e w' ⟨rfl, rfl⟩)
  generalize x % 65536 = a at *
  go_loopw [4] (fun i wr => ∃ k : Nat, k < 6 ∧ edg k ≤ a ∧ i = .int .i64 k ∧ wr = w)
    (fun i _ => 6 - (intOf i).toNat)
  case atStart => exact ⟨0, by omega, a0, rfl, rfl⟩
  case round =>
    obtain ⟨k, hk, hle, rfl, rfl⟩ := hrel
    by_cases h : edg (k + 1) ≤ a
    · have h5 : k + 1 < 6 := by
        by_cases h5 : k = 5
        · subst h5
          simp only [edg] at h
          omega
        · omega
      have H := Lib.hid h
      go_wp2_with (go_at_call 20; (with_reducible refine (edge_any _ (by omega) (by omega) _).mono ?_); rintro e w' ⟨rfl, rfl⟩)
      exact ⟨⟨k + 1, h5, H.out, by go_num, trivial⟩, by simp [intOf]; omega⟩
    · have e := Lib.hid (secN_uniq hk (by rw [edgL_eq k (by omega)]; exact hle) (by rw [edgL_eq (k + 1) (by omega)]; push_cast; omega) a1)
      have dt : decide (edg (k + 1) ≤ a) = false := decide_eq_false h
      have hlt : a < edg (k + 1) := by omega
      clear h dt
      go_wp2_with fail
      (with_reducible refine (edge_any _ (by omega) (by omega) _).mono ?_)
      rintro e w' ⟨rfl, rfl⟩
      go_wp2_with fail
      (with_reducible refine (edge_any _ (by omega) (by omega) _).mono ?_)
      rintro e w' ⟨rfl, rfl⟩
      go_wp2_with fail
      (with_reducible refine (codes_any _).mono ?_)
      rintro e w1 ⟨rfl, hcells, hb1⟩
      have ck := hcells k hk
      clear hcells
      go_wp2_with fail
      go_ret
      exact ⟨ret_int (by rw [HC.out, e.out]), hb1⟩

set_option maxHeartbeats 400000 in
theorem Speed_any (s : HS) (w : World) : Calls Tryd.prog 23 #[.agg #[.int .i64 s.sec, .int .i64 s.dir, .int .i64 s.since, .int .i64 s.span, .int .i64 s.bad, .int .i64 s.jump, .bool s.st]] w fun e w' => e = .returned (.int .i64 (spe (nrm s))) ∧ Below w.heap.size w w' := by
  go_enter Tryd.func23, Tryd.ntmps23
  go_wp2_with fail
  (with_reducible refine (normal_any s _).mono ?_)
  rintro e w1 ⟨rfl, hb1⟩
  obtain ⟨bS, cS, fS, zS⟩ := (Blk.new w 23 #[.int .i64 s.sec, .int .i64 s.dir, .int .i64 s.since, .int .i64 s.span, .int .i64 s.bad, .int .i64 s.jump, .bool s.st]).next hb1
  simp at bS cS fS zS
  have B1 := below_call (below_box (Below.refl w.heap.size w) _) hb1
  have hn := nrm_ok s
  generalize hN : nrm s = n at *
  have bS2 : Blk (((((((w1.setCell ⟨w.heap.size, 0, none⟩ (.int .i64 n.sec)).setCell ⟨w.heap.size, 1, none⟩ (.int .i64 n.dir)).setCell ⟨w.heap.size, 2, none⟩ (.int .i64 n.since)).setCell ⟨w.heap.size, 3, none⟩ (.int .i64 n.span)).setCell ⟨w.heap.size, 4, none⟩ (.int .i64 n.bad)).setCell ⟨w.heap.size, 5, none⟩ (.int .i64 n.jump)).setCell ⟨w.heap.size, 6, none⟩ (.bool n.st)) w.heap.size 23 #[.int .i64 n.sec, .int .i64 n.dir, .int .i64 n.since, .int .i64 n.span, .int .i64 n.bad, .int .i64 n.jump, .bool n.st] := ((((((bS.put 0 _).put 1 _).put 2 _).put 3 _).put 4 _).put 5 _).put 6 _
  have B2 : Below w.heap.size w (((((((w1.setCell ⟨w.heap.size, 0, none⟩ (.int .i64 n.sec)).setCell ⟨w.heap.size, 1, none⟩ (.int .i64 n.dir)).setCell ⟨w.heap.size, 2, none⟩ (.int .i64 n.since)).setCell ⟨w.heap.size, 3, none⟩ (.int .i64 n.span)).setCell ⟨w.heap.size, 4, none⟩ (.int .i64 n.bad)).setCell ⟨w.heap.size, 5, none⟩ (.int .i64 n.jump)).setCell ⟨w.heap.size, 6, none⟩ (.bool n.st)) := below_set (below_set (below_set (below_set (below_set (below_set (below_set B1 (Nat.le_refl _) _) (Nat.le_refl _) _) (Nat.le_refl _) _) (Nat.le_refl _) _) (Nat.le_refl _) _) (Nat.le_refl _) _) (Nat.le_refl _) _
  go_upto_region 2 with fail
  generalize (((((((w1.setCell ⟨w.heap.size, 0, none⟩ (.int .i64 n.sec)).setCell ⟨w.heap.size, 1, none⟩ (.int .i64 n.dir)).setCell ⟨w.heap.size, 2, none⟩ (.int .i64 n.since)).setCell ⟨w.heap.size, 3, none⟩ (.int .i64 n.span)).setCell ⟨w.heap.size, 4, none⟩ (.int .i64 n.bad)).setCell ⟨w.heap.size, 5, none⟩ (.int .i64 n.jump)).setCell ⟨w.heap.size, 6, none⟩ (.bool n.st)) = w2 at bS2 B2 ⊢
  clear cS fS zS bS B1 hb1
  obtain ⟨⟨h1, h2⟩, ⟨h3, h4⟩, ⟨h5, h6⟩, ⟨h7, h8⟩, ⟨h9, h10⟩, h11, h12⟩ := hn
  obtain ⟨cS, fS, zS⟩ := And.intro bS2.cell (And.intro bS2.frozen bS2.lt)
  by_cases g : n.span = 0
  · have ES : Hid (spe n = 0) := by unfold Hid spe; rw [if_pos g]
    go_wp2_with fail
    go_ret
    exact ⟨ret_int (by rw [hN, ES.out]), B2⟩
  · have ES : Hid (spe n = clp ((n.dir * 10923 * 65536).tdiv (max n.span (n.since + 1))) (-1073741824) 1073741824) := by unfold Hid spe; rw [if_neg g]
    have e1 : IntKind.i64.wrap (n.dir * 10923) = n.dir * 10923 := IntWalk.i64_in _ (by omega)
    have e2 : IntKind.i64.wrap (n.dir * 10923 * 65536) = n.dir * 10923 * 65536 := IntWalk.i64_in _ (by omega)
    have e3 : IntKind.i64.wrap (n.since + 1) = n.since + 1 := IntWalk.i64_in _ (by omega)
    go_wp2_with (go_at_call 30; (with_reducible refine (clip_any _ _ _ (by decide) _).mono ?_); rintro e w' ⟨rfl, rfl⟩)
    go_ret
    exact ⟨ret_int (by rw [hN, ES.out]), B2⟩

set_option maxHeartbeats 400000 in
theorem rSpeed_any (s : HS) (w : World) : Calls Tryd.prog 24 #[.agg #[.int .i64 s.sec, .int .i64 s.dir, .int .i64 s.since, .int .i64 s.span, .int .i64 s.bad, .int .i64 s.jump, .bool s.st]] w fun e w' => e = .returned (.int .i64 (spe (nrm s))) ∧ Below w.heap.size w w' := by
  go_enter Tryd.func24, Tryd.ntmps24
  go_wp2_with fail
  (with_reducible refine (rNormal_any s _).mono ?_)
  rintro e w1 ⟨rfl, hb1⟩
  obtain ⟨bS, cS, fS, zS⟩ := (Blk.new w 23 #[.int .i64 s.sec, .int .i64 s.dir, .int .i64 s.since, .int .i64 s.span, .int .i64 s.bad, .int .i64 s.jump, .bool s.st]).next hb1
  simp at bS cS fS zS
  have B1 := below_call (below_box (Below.refl w.heap.size w) _) hb1
  have hn := nrm_ok s
  generalize hN : nrm s = n at *
  have bS2 : Blk (((((((w1.setCell ⟨w.heap.size, 0, none⟩ (.int .i64 n.sec)).setCell ⟨w.heap.size, 1, none⟩ (.int .i64 n.dir)).setCell ⟨w.heap.size, 2, none⟩ (.int .i64 n.since)).setCell ⟨w.heap.size, 3, none⟩ (.int .i64 n.span)).setCell ⟨w.heap.size, 4, none⟩ (.int .i64 n.bad)).setCell ⟨w.heap.size, 5, none⟩ (.int .i64 n.jump)).setCell ⟨w.heap.size, 6, none⟩ (.bool n.st)) w.heap.size 23 #[.int .i64 n.sec, .int .i64 n.dir, .int .i64 n.since, .int .i64 n.span, .int .i64 n.bad, .int .i64 n.jump, .bool n.st] := ((((((bS.put 0 _).put 1 _).put 2 _).put 3 _).put 4 _).put 5 _).put 6 _
  have B2 : Below w.heap.size w (((((((w1.setCell ⟨w.heap.size, 0, none⟩ (.int .i64 n.sec)).setCell ⟨w.heap.size, 1, none⟩ (.int .i64 n.dir)).setCell ⟨w.heap.size, 2, none⟩ (.int .i64 n.since)).setCell ⟨w.heap.size, 3, none⟩ (.int .i64 n.span)).setCell ⟨w.heap.size, 4, none⟩ (.int .i64 n.bad)).setCell ⟨w.heap.size, 5, none⟩ (.int .i64 n.jump)).setCell ⟨w.heap.size, 6, none⟩ (.bool n.st)) := below_set (below_set (below_set (below_set (below_set (below_set (below_set B1 (Nat.le_refl _) _) (Nat.le_refl _) _) (Nat.le_refl _) _) (Nat.le_refl _) _) (Nat.le_refl _) _) (Nat.le_refl _) _) (Nat.le_refl _) _
  go_upto_region 2 with fail
  generalize (((((((w1.setCell ⟨w.heap.size, 0, none⟩ (.int .i64 n.sec)).setCell ⟨w.heap.size, 1, none⟩ (.int .i64 n.dir)).setCell ⟨w.heap.size, 2, none⟩ (.int .i64 n.since)).setCell ⟨w.heap.size, 3, none⟩ (.int .i64 n.span)).setCell ⟨w.heap.size, 4, none⟩ (.int .i64 n.bad)).setCell ⟨w.heap.size, 5, none⟩ (.int .i64 n.jump)).setCell ⟨w.heap.size, 6, none⟩ (.bool n.st)) = w2 at bS2 B2 ⊢
  clear cS fS zS bS B1 hb1
  obtain ⟨⟨h1, h2⟩, ⟨h3, h4⟩, ⟨h5, h6⟩, ⟨h7, h8⟩, ⟨h9, h10⟩, h11, h12⟩ := hn
  obtain ⟨cS, fS, zS⟩ := And.intro bS2.cell (And.intro bS2.frozen bS2.lt)
  by_cases g : n.span = 0
  · have ES : Hid (spe n = 0) := by unfold Hid spe; rw [if_pos g]
    go_wp2_with fail
    go_ret
    exact ⟨ret_int (by rw [hN, ES.out]), B2⟩
  · have ES : Hid (spe n = clp ((n.dir * 10923 * 65536).tdiv (max n.span (n.since + 1))) (-1073741824) 1073741824) := by unfold Hid spe; rw [if_neg g]
    have e1 : IntKind.i64.wrap (n.dir * 10923) = n.dir * 10923 := IntWalk.i64_in _ (by omega)
    have e2 : IntKind.i64.wrap (n.dir * 10923 * 65536) = n.dir * 10923 * 65536 := IntWalk.i64_in _ (by omega)
    have e3 : IntKind.i64.wrap (n.since + 1) = n.since + 1 := IntWalk.i64_in _ (by omega)
    go_wp2_with (go_at_call 31; (with_reducible refine (rclip_any _ _ _ _).mono ?_); rintro e w' ⟨rfl, rfl⟩)
    go_ret
    exact ⟨ret_int (by rw [hN, ES.out]), B2⟩

set_option maxHeartbeats 800000 in
theorem rAngle_any (s : HS) (w : World) : Calls Tryd.prog 22 #[.agg #[.int .i64 s.sec, .int .i64 s.dir, .int .i64 s.since, .int .i64 s.span, .int .i64 s.bad, .int .i64 s.jump, .bool s.st]] w fun e w' => e = .returned (.int .i64 (ang (nrm s))) ∧ Below w.heap.size w w' := by
  go_enter Tryd.func22, Tryd.ntmps22
  go_wp2_with fail
  (with_reducible refine (rNormal_any s _).mono ?_)
  rintro e w1 ⟨rfl, hb1⟩
  obtain ⟨bS, cS, fS, zS⟩ := (Blk.new w 23 #[.int .i64 s.sec, .int .i64 s.dir, .int .i64 s.since, .int .i64 s.span, .int .i64 s.bad, .int .i64 s.jump, .bool s.st]).next hb1
  simp at bS cS fS zS
  have B1 := below_call (below_box (Below.refl w.heap.size w) _) hb1
  have hn := nrm_ok s
  generalize hN : nrm s = n at *
  have bS2 : Blk (((((((w1.setCell ⟨w.heap.size, 0, none⟩ (.int .i64 n.sec)).setCell ⟨w.heap.size, 1, none⟩ (.int .i64 n.dir)).setCell ⟨w.heap.size, 2, none⟩ (.int .i64 n.since)).setCell ⟨w.heap.size, 3, none⟩ (.int .i64 n.span)).setCell ⟨w.heap.size, 4, none⟩ (.int .i64 n.bad)).setCell ⟨w.heap.size, 5, none⟩ (.int .i64 n.jump)).setCell ⟨w.heap.size, 6, none⟩ (.bool n.st)) w.heap.size 23 #[.int .i64 n.sec, .int .i64 n.dir, .int .i64 n.since, .int .i64 n.span, .int .i64 n.bad, .int .i64 n.jump, .bool n.st] := ((((((bS.put 0 _).put 1 _).put 2 _).put 3 _).put 4 _).put 5 _).put 6 _
  have B2 : Below w.heap.size w (((((((w1.setCell ⟨w.heap.size, 0, none⟩ (.int .i64 n.sec)).setCell ⟨w.heap.size, 1, none⟩ (.int .i64 n.dir)).setCell ⟨w.heap.size, 2, none⟩ (.int .i64 n.since)).setCell ⟨w.heap.size, 3, none⟩ (.int .i64 n.span)).setCell ⟨w.heap.size, 4, none⟩ (.int .i64 n.bad)).setCell ⟨w.heap.size, 5, none⟩ (.int .i64 n.jump)).setCell ⟨w.heap.size, 6, none⟩ (.bool n.st)) := below_set (below_set (below_set (below_set (below_set (below_set (below_set B1 (Nat.le_refl _) _) (Nat.le_refl _) _) (Nat.le_refl _) _) (Nat.le_refl _) _) (Nat.le_refl _) _) (Nat.le_refl _) _) (Nat.le_refl _) _
  go_wp2_with fail
  generalize (((((((w1.setCell ⟨w.heap.size, 0, none⟩ (.int .i64 n.sec)).setCell ⟨w.heap.size, 1, none⟩ (.int .i64 n.dir)).setCell ⟨w.heap.size, 2, none⟩ (.int .i64 n.since)).setCell ⟨w.heap.size, 3, none⟩ (.int .i64 n.span)).setCell ⟨w.heap.size, 4, none⟩ (.int .i64 n.bad)).setCell ⟨w.heap.size, 5, none⟩ (.int .i64 n.jump)).setCell ⟨w.heap.size, 6, none⟩ (.bool n.st)) = w2 at bS2 B2 ⊢
  clear cS fS zS bS B1 hb1
  obtain ⟨⟨h1, h2⟩, ⟨h3, h4⟩, ⟨h5, h6⟩, ⟨h7, h8⟩, ⟨h9, h10⟩, h11, h12⟩ := hn
  obtain ⟨cS, fS, zS⟩ := And.intro bS2.cell (And.intro bS2.frozen bS2.lt)
  have hE : 0 ≤ edg n.sec ∧ edg n.sec + 10922 ≤ edg (n.sec + 1) ∧ edg (n.sec + 1) ≤ edg n.sec + 10923 ∧ edg (n.sec + 1) ≤ 65536 := by unfold edg; omega
  have HA := Lib.hid (show ang n = if n.dir = 0 ∨ n.span = 0 then (edg n.sec + edg (n.sec + 1)) / 2
    else if n.dir < 0 then edg (n.sec + 1) - 1 - (min n.since n.span * (edg (n.sec + 1) - 1 - edg n.sec)).tdiv n.span
    else edg n.sec + (min n.since n.span * (edg (n.sec + 1) - 1 - edg n.sec)).tdiv n.span from rfl)
  have EA := Lib.hid fun (h : 0 ≤ n.sec) (h2 : n.sec ≤ 6) W => edge_any n.sec h h2 W
  have EB := Lib.hid fun (h : 0 ≤ n.sec + 1) (h2 : n.sec + 1 ≤ 6) W => edge_any (n.sec + 1) h h2 W
  generalize edg (n.sec + 1) = b at *
  generalize edg n.sec = a at *
  have e5 : IntKind.i64.wrap (n.sec + 1) = n.sec + 1 := IntWalk.i64_in _ (by omega)
  go_quiet ((go_at_call 20; first | exact Calls.quiet_of_same ((EA.out (by omega) (by omega) _).mono (by rintro e w' ⟨rfl, rfl⟩; exact ⟨rfl, rfl⟩)) | exact Calls.quiet_of_same ((EB.out (by omega) (by omega) _).mono (by rintro e w' ⟨rfl, rfl⟩; exact ⟨rfl, rfl⟩))))
  have B3 := below_drewN B2 nq
  clear B2
  have ed : IntKind.i64.wrap (a + b) = a + b := IntWalk.i64_in _ (by omega)
  have eb : IntKind.i64.wrap (b - 1) = b - 1 := IntWalk.i64_in _ (by omega)
  have ea : IntKind.i64.wrap (b - 1 - a) = b - 1 - a := IntWalk.i64_in _ (by omega)
  have cases : n.dir = 0 ∨ (¬ n.dir = 0 ∧ n.span = 0) ∨ (¬ n.dir = 0 ∧ ¬ n.span = 0 ∧ n.dir < 0) ∨ (¬ n.dir = 0 ∧ ¬ n.span = 0 ∧ 0 < n.dir) := by omega
  rcases cases with g0 | ⟨g0, g1⟩ | ⟨g0, g1, g2⟩ | ⟨g0, g1, g2⟩
  · have ES : Hid (ang n = (a + b) / 2) := by unfold Hid; rw [HA.out, if_pos (.inl g0)]
    go_wp2_with fail
    go_ret
    exact ⟨by rw [hN, ES.out]; rfl, B3⟩
  · have ES : Hid (ang n = (a + b) / 2) := by unfold Hid; rw [HA.out, if_pos (.inr g1)]
    go_wp2_with fail
    go_ret
    exact ⟨by rw [hN, ES.out]; rfl, B3⟩
  · have ES : Hid (ang n = b - 1 - (min n.since n.span * (b - 1 - a)).tdiv n.span) := by unfold Hid; rw [HA.out, if_neg (by omega), if_pos g2]
    have d0 : (n.dir == 0) = false := by simp [g0]
    have d1 : (n.span == 0) = false := by simp [g1]
    have hQ := quot_le (a := min n.since n.span) (b := b - 1 - a) (s := n.span) (by omega) (by omega) (by omega) (by omega)
    have eP : IntKind.i64.wrap (min n.since n.span * (b - 1 - a)) = min n.since n.span * (b - 1 - a) := IntWalk.i64_in _ (by have : n.span * (b - 1 - a) ≤ 1048576 * (b - 1 - a) := Int.mul_le_mul_of_nonneg_right h8 (by omega); omega)
    go_wp2_with fail
    go_ret
    exact ⟨by rw [hN, ES.out]; rfl, B3⟩
  · have ES : Hid (ang n = a + (min n.since n.span * (b - 1 - a)).tdiv n.span) := by unfold Hid; rw [HA.out, if_neg (by omega), if_neg (by omega)]
    have d0 : (n.dir == 0) = false := by simp [g0]
    have d1 : (n.span == 0) = false := by simp [g1]
    have hQ := quot_le (a := min n.since n.span) (b := b - 1 - a) (s := n.span) (by omega) (by omega) (by omega) (by omega)
    have eP : IntKind.i64.wrap (min n.since n.span * (b - 1 - a)) = min n.since n.span * (b - 1 - a) := IntWalk.i64_in _ (by have : n.span * (b - 1 - a) ≤ 1048576 * (b - 1 - a) := Int.mul_le_mul_of_nonneg_right h8 (by omega); omega)
    go_wp2_with fail
    go_ret
    exact ⟨by rw [hN, ES.out]; rfl, B3⟩


end Go.Proofs.YtehkmnkbmhldgaaDoor
