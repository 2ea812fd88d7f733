/- The walk of ShareChops. -/
import Derived.Test.YtfopcmiphklcdaaRChop
import Derived.Test.YtfopcmiphklcdaaLaw1
namespace Go.Proofs.Ytfopcmiphklcdaa
open Go.RowKit


set_option maxHeartbeats 4000000 in
theorem chops_any (on off mo ri fa he v : Int) (ac : Bool) (w : World) : Calls Try.prog 6 #[.agg #[.int .i64 on, .int .i64 off, .int .i64 mo, .int .i64 ri, .int .i64 fa], .agg #[.bool ac, .int .i64 he], .int .i64 v] w fun e w' => e = .returned (.bool true) ∧ Below w.heap.size w w' := by
  have CA := Lib.hid (Chop_any on off mo ri fa he v ac)
  have RA := Lib.hid (rChop_any on off mo ri fa he v ac)
  have NU := Lib.hid (num_any (chE on off mo ri fa he))
  generalize chA on off mo ri fa he v ac = a1 at CA RA
  generalize chH on off mo ri fa he v ac = h1 at CA RA
  generalize chE on off mo ri fa he = e1 at CA RA NU
  have q1 : (e1 == e1) = true := by simp
  have K0 : Kp w ((w.alloc (.cells #[.int .i64 on, .int .i64 off, .int .i64 mo, .int .i64 ri, .int .i64 fa] 42)).alloc (.cells #[.bool ac, .int .i64 he] 44)) [(w.heap.size, 42, #[.int .i64 on, .int .i64 off, .int .i64 mo, .int .i64 ri, .int .i64 fa]), (w.heap.size + 1, 44, #[.bool ac, .int .i64 he])] := ⟨(Blk.new w 42 #[.int .i64 on, .int .i64 off, .int .i64 mo, .int .i64 ri, .int .i64 fa]).alloc _, by have := Blk.new (w.alloc (.cells #[.int .i64 on, .int .i64 off, .int .i64 mo, .int .i64 ri, .int .i64 fa] 42)) 44 #[.bool ac, .int .i64 he]; simpa using this, ((Kp.base w).alloc _).alloc _⟩
  go_enter Try.func6, Try.ntmps6
  go_wp2_with fail
  (with_reducible refine (awake_any _).mono ?_)
  rintro e w1 ⟨rfl, hb1⟩
  have K1 := K0.call hb1
  clear K0 hb1
  obtain ⟨cC, fC, zC⟩ := And.intro K1.1.cell (And.intro K1.1.frozen K1.1.lt)
  obtain ⟨cS, fS, zS⟩ := And.intro K1.2.1.cell (And.intro K1.2.1.frozen K1.2.1.lt)
  go_wp2_with fail
  (with_reducible refine (CA.out _).mono ?_)
  rintro e w2 ⟨rfl, hb2⟩
  have K2 := K1.call hb2
  clear K1 hb2 cC fC zC cS fS zS
  have K2 := K2.new #[.bool a1, .int .i64 h1] 44
  obtain ⟨cC, fC, zC⟩ := And.intro K2.2.1.cell (And.intro K2.2.1.frozen K2.2.1.lt)
  obtain ⟨cS, fS, zS⟩ := And.intro K2.2.2.1.cell (And.intro K2.2.2.1.frozen K2.2.2.1.lt)
  go_wp2_with fail
  (with_reducible refine (RA.out _).mono ?_)
  rintro e w3 ⟨rfl, hb3⟩
  have K3 := K2.call hb3
  clear K2 hb3 cC fC zC cS fS zS
  obtain ⟨cX, fX, zX⟩ := And.intro K3.1.cell (And.intro K3.1.frozen K3.1.lt)
  go_wp2_with fail
  (with_reducible refine (NU.out _).mono ?_)
  rintro e w' ⟨rfl, rfl⟩
  go_wp2_with fail
  go_ret
  exact ⟨ret_bool (by simp), K3.2.2.2.alloc _⟩

end Go.Proofs.Ytfopcmiphklcdaa
