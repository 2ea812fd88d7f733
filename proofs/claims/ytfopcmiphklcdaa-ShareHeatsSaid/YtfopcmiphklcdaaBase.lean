/- Small facts that every walk of this seat shares: remainders, masks, blocks of memory, what a call leaves as it was. No condition. -/
import Derived.Test.YtfopcmiphklcdaaRows
import Derived.WalkKit
import Derived.WalkSpells
import Derived.WalkLawsBesides
import Derived.Lib.MinMax
import Derived.Lib.Hide
namespace Go.Proofs.Ytfopcmiphklcdaa
open Go.RowKit

theorem ret_int {k : IntKind} {a b : Int} (h : a = b) : Ending.returned (.int k a) = .returned (.int k b) := by rw [h]
theorem ret_bool {a b : Bool} (h : a = b) : Ending.returned (.bool a) = .returned (.bool b) := by rw [h]

/-- 'x & (2^n - 1)' is the remainder. -/
theorem bits_mask (n : Nat) (hn : n < 63) (x : Int) : bits .and .i64 x (2 ^ n - 1) = x % 2 ^ n := by
  have h2 : ((2 : Int) ^ n) = ((2 ^ n : Nat) : Int) := by simp
  have hp : 2 ^ n < 2 ^ 63 := Nat.pow_lt_pow_right (by decide) hn
  have hp0 : 0 < 2 ^ n := Nat.two_pow_pos n
  have h1 : ((2 : Int) ^ n - 1) = ((2 ^ n - 1 : Nat) : Int) := by omega
  show IntKind.i64.wrap ((BitVec.ofInt 64 x &&& BitVec.ofInt 64 (2 ^ n - 1)).toNat : Int) = _
  rw [BitVec.toNat_and, h1, BitVec.ofInt_natCast, BitVec.toNat_ofNat, Nat.mod_eq_of_lt (by omega : 2 ^ n - 1 < 2 ^ 64), Nat.and_two_pow_sub_one_eq_mod, BitVec.toNat_ofInt]
  have hd : (((2 ^ 64 : Nat) : Int)) = ((2 ^ n : Nat) : Int) * ((2 ^ (64 - n) : Nat) : Int) := by
    rw [← Int.natCast_mul, ← Nat.pow_add]
    congr 2
    omega
  have e : (((x % ((2 ^ 64 : Nat) : Int)).toNat % 2 ^ n : Nat) : Int) = x % ((2 ^ n : Nat) : Int) := by
    rw [Int.natCast_emod, Int.toNat_of_nonneg (Int.emod_nonneg _ (by simp)), hd, Int.emod_emod_of_dvd _ (Int.dvd_mul_right _ _)]
  rw [e, IntKind.wrap_i64, h2]
  have b0 := Int.emod_nonneg x (show ((2 ^ n : Nat) : Int) ≠ 0 by omega)
  have b1 := Int.emod_lt_of_pos x (show (0 : Int) < ((2 ^ n : Nat) : Int) by omega)
  omega

/-- Go's '/' and '%' by a positive number. -/
theorem tspec (x c : Int) (hc : 0 < c) : c * x.tdiv c + x.tmod c = x ∧ (0 ≤ x → 0 ≤ x.tmod c ∧ x.tmod c < c ∧ 0 ≤ x.tdiv c) ∧ (x ≤ 0 → -c < x.tmod c ∧ x.tmod c ≤ 0 ∧ x.tdiv c ≤ 0) := by
  refine ⟨Int.mul_tdiv_add_tmod x c, fun h => ⟨Int.tmod_nonneg _ h, Int.tmod_lt_of_pos _ hc, Int.tdiv_nonneg h (by omega)⟩, fun h => ?_⟩
  have h1 := Int.tmod_nonneg (a := -x) c (by omega)
  have h2 := Int.tmod_lt_of_pos (-x) hc
  have h3 := Int.tdiv_nonneg (a := -x) (b := c) (by omega) (by omega)
  rw [Int.neg_tmod] at h1 h2
  rw [Int.neg_tdiv] at h3
  omega

theorem below_drewN {B : Nat} {a w : World} (h : Below B a w) (n : Nat) : Below B a (w.drewN n) := ⟨h.os, h.tape, h.output, h.size, h.block⟩
theorem size_set (w : World) (a : Addr) (u : Value) : (w.setCell a u).heap.size = w.heap.size := by simp [World.setCell]

/-- Block b is just these cells, none frozen. -/
def Blk (w : World) (b : Nat) (t : TypeId) (cs : Array Value) : Prop := w.heap[b]? = some (.cells cs t (0, 0))
section
variable {w W w1 : World} {b : Nat} {t : TypeId} {cs : Array Value}
theorem Blk.lt (h : Blk w b t cs) : b < w.heap.size := by
  rcases Nat.lt_or_ge b w.heap.size with hl | hl
  · exact hl
  · unfold Blk at h; rw [Array.getElem?_eq_none hl] at h; cases h
theorem Blk.cell (h : Blk w b t cs) (i : Nat) : w.cell? ⟨b, i, none⟩ = cs[i]? := by
  unfold Blk at h
  simp [World.cell?, h]
theorem Blk.frozen (h : Blk w b t cs) (i : Nat) : w.frozen? ⟨b, i, none⟩ = false := by
  unfold Blk at h
  simp [World.frozen?, h]
theorem Blk.new (w : World) (t : TypeId) (cs : Array Value) : Blk (w.alloc (.cells cs t)) w.heap.size t cs := by
  unfold Blk World.alloc; simp
theorem Blk.alloc (h : Blk w b t cs) (o : Obj) : Blk (w.alloc o) b t cs := (Below.heap_alloc w o b h.lt).trans h
theorem Blk.drewN (h : Blk w b t cs) (n : Nat) : Blk (w.drewN n) b t cs := h
theorem Blk.drew (h : Blk w b t cs) : Blk w.drew b t cs := h
theorem Blk.far (h : Blk w b t cs) {p : Addr} (hp : b ≠ p.block) (u : Value) : Blk (w.setCell p u) b t cs := (Below.heap_setCell w p u b hp).trans h
theorem Blk.put (h : Blk w b t cs) (i : Nat) (u : Value) : Blk (w.setCell ⟨b, i, none⟩ u) b t (cs.setIfInBounds i u) := by
  unfold Blk at h ⊢
  simp [World.setCell, Array.getElem?_modify, h]
theorem Blk.next {w0 : World} (h : Blk w0 b t cs) (hb : Below W.heap.size W w1) (hw : W.heap = w0.heap := by rfl) : Blk w1 b t cs ∧ (∀ i, w1.cell? ⟨b, i, none⟩ = cs[i]?) ∧ (∀ i, w1.frozen? ⟨b, i, none⟩ = false) ∧ b < w1.heap.size := by
  have h0 : Blk W b t cs := by unfold Blk; rw [hw]; exact h
  have h1 : Blk w1 b t cs := (hb.block b h0.lt).trans h0
  exact ⟨h1, h1.cell, h1.frozen, h1.lt⟩
theorem Blk.new1 (w : World) (a : Addr) (u : Value) (t : TypeId) (cs : Array Value) : Blk ((w.setCell a u).alloc (.cells cs t)) w.heap.size t cs := by
  have := Blk.new (w.setCell a u) t cs
  rwa [size_set] at this
theorem Blk.new2 (w : World) (a a2 : Addr) (u u2 : Value) (t : TypeId) (cs : Array Value) : Blk (((w.setCell a u).setCell a2 u2).alloc (.cells cs t)) w.heap.size t cs := by
  have := Blk.new1 (w.setCell a u) a2 u2 t cs
  rwa [size_set] at this
theorem below_box (h : Below w.heap.size w W) (o : Obj) : Below w.heap.size w (W.alloc o) := h.alloc h.size o
theorem below_call (h : Below w.heap.size w W) (hb : Below W.heap.size W w1) : Below w.heap.size w w1 := h.trans (hb.mono h.size)
theorem below_set (h : Below w.heap.size w W) {b i : Nat} (hb : w.heap.size ≤ b) (u : Value) : Below w.heap.size w (W.setCell ⟨b, i, none⟩ u) := h.setCell (p := ⟨b, i, none⟩) hb u
/-- Behind a call the world is some world that has kept all old blocks. -/
theorem far (hb : Below W.heap.size W w1) : (∀ b o, b < W.heap.size → w1.cell? ⟨b, o, none⟩ = W.cell? ⟨b, o, none⟩) ∧ (∀ b o, b < W.heap.size → w1.frozen? ⟨b, o, none⟩ = W.frozen? ⟨b, o, none⟩) ∧ W.heap.size ≤ w1.heap.size :=
  ⟨fun b o h => hb.cell (p := ⟨b, o, none⟩) h, fun b o h => hb.frozen (p := ⟨b, o, none⟩) h, hb.size⟩
end

/-- Go's error values by their numbers; 0 is nil. -/
def errV (c : Int) : Value := if c = 0 then .nilIface else .iface 66 (.int .i64 c)
theorem errV_zero : errV 0 = .nilIface := rfl
end Go.Proofs.Ytfopcmiphklcdaa
