/- Rows of the call's own: ints that are given back. -/
import Derived.Test.YtfopcmiphklcdaaGreedy
import Derived.Deep.AppendLies
namespace Go.Proofs.Ytfopcmiphklcdaa
open Go.RowKit

theorem Try.info3 : (Try.prog.info? 3).map (fun i => (i.zero, i.size, i.bytes)) = some (some (.int .i64 0), 1, 8) := by kernel_rfl
theorem Kp.grown {w W W1 : World} {Bs : Nat} {row : Option Nat} (hg : W.grownBy W1 row) (hlow : w.heap.size ≤ Bs) (hs : Bs ≤ W.heap.size) (hrow : ∀ k, row = some k → Bs ≤ k) : ∀ {l : List (Nat × TypeId × Array Value)}, (∀ e ∈ l, e.1 < Bs) → Kp w W l → Kp w W1 l
  | [], _, h => Below.grown (B := w.heap.size) h hg (by omega) (fun k hk => Nat.le_trans hlow (hrow k hk))
  | e :: l, hl, h => ⟨(hg.block e.1 (Nat.lt_of_lt_of_le (hl e (by simp)) hs) (fun e1 => by
      have := hrow e.1 e1.symm
      have := hl e (by simp)
      omega)).trans h.1, Kp.grown hg hlow hs hrow (fun x hx => hl x (by simp [hx])) h.2⟩
theorem news_one {w : World} {P : Nat} {x : Value} (h : w.cell? ⟨P, 0, none⟩ = some x) : ∀ j u, [x][j]? = some u → w.cell? ((⟨P, 0, none⟩ : Addr).add j) = some u := by
  intro j u hu
  match j, hu with
  | 0, hu => simp at hu; subst hu; simpa [Addr.add] using h
theorem one_int (x : Int) : ∀ u ∈ [Value.int .i64 x], u.oneCell' = true := by
  intro u hu
  simp at hu
  subst hu
  rfl
theorem cell_new (w : World) (cs : Array Value) (t : TypeId) : (w.alloc (.cells cs t)).cell? ⟨w.heap.size, 0, none⟩ = cs[0]? := (Blk.new w t cs).cell 0
/-- A row of ints, of the call's own. -/
def ORow (W : World) (lo : Nat) (O : Option Addr) (g k : Nat) (o : Nat → Int) : Prop :=
  0 < k → O = some ⟨g, 0, none⟩ ∧ lo ≤ g ∧ g < W.heap.size ∧ ∀ i, i < k → W.cell? ⟨g, i, none⟩ = some (.int .i64 (o i)) ∧ W.frozen? ⟨g, i, none⟩ = false
section
variable {W W1 : World} {lo : Nat} {O : Option Addr} {g k : Nat} {o : Nat → Int}
theorem ORow.call (h : ORow W lo O g k o) (hb : Below W.heap.size W W1) : ORow W1 lo O g k o := fun hk => by
  obtain ⟨h1, h2, h3, h4⟩ := h hk
  have f := far hb
  exact ⟨h1, h2, Nat.lt_of_lt_of_le h3 hb.size, fun i hi => ⟨(f.1 g i h3).trans (h4 i hi).1, (f.2.1 g i h3).trans (h4 i hi).2⟩⟩
theorem ORow.drew (h : ORow W lo O g k o) : ORow W.drew lo O g k o := h
theorem ORow.alloc (h : ORow W lo O g k o) (x : Obj) : ORow (W.alloc x) lo O g k o := h.call (below_box (Below.refl W.heap.size W) x)
theorem ORow.down {lo' : Nat} (h : ORow W lo O g k o) (hl : lo' ≤ lo) : ORow W lo' O g k o := fun hk => by
  obtain ⟨h1, h2, h3, h4⟩ := h hk
  exact ⟨h1, by omega, h3, h4⟩
theorem ORow.congr {o' : Nat → Int} (h : ORow W lo O g k o) (e : ∀ i, i < k → o i = o' i) : ORow W lo O g k o' := fun hk => by
  obtain ⟨h1, h2, h3, h4⟩ := h hk
  exact ⟨h1, h2, h3, fun i hi => by rw [← e i hi]; exact h4 i hi⟩
theorem ORow.set (h : ORow W lo O g k o) {p : Nat} (hp : p < k) (v : Int) : ORow (W.setCell ⟨g, p, none⟩ (.int .i64 v)) lo O g k (upd o p v) := fun hk => by
  obtain ⟨h1, h2, h3, h4⟩ := h hk
  refine ⟨h1, h2, by rw [size_set]; exact h3, fun i hi => ?_⟩
  unfold upd
  by_cases e : i = p
  · subst e
    rw [if_pos rfl]
    exact ⟨World.cell?_setCell_same' W ⟨g, i, none⟩ _ (by rw [(h4 i hi).1]; rfl), by simpa using (h4 i hi).2⟩
  · rw [if_neg e]
    exact ⟨(World.cell?_setCell_other W ⟨g, p, none⟩ ⟨g, i, none⟩ _ (fun x => e (by cases x; rfl))).trans (h4 i hi).1, by simpa using (h4 i hi).2⟩
theorem own_out {Bs : Nat} {v : Value} (h : W.ownsRow Bs 3 1 v k ((List.range k).map fun i => .int .i64 (o i))) : ∃ O g c, v = .slice O k c ∧ ORow W Bs O g k o := by
  rcases h.2 with ⟨rfl, e⟩ | ⟨g, cap, cur, rfl, hb, hg, _, _, _, ht⟩
  · exact ⟨none, 0, 0, by rw [e], fun hk => absurd hk (by omega)⟩
  · refine ⟨_, g, cap, rfl, fun hk => ⟨rfl, hb, (Array.getElem?_eq_some_iff.1 hg).1, fun i hi => ⟨?_, ?_⟩⟩⟩
    · have c := h.cells (g := g) rfl i (.int .i64 (o i)) (by
        rw [List.getElem?_map, List.getElem?_range hi]
        rfl)
      have e : (⟨g, 0, none⟩ : Addr).add i = ⟨g, i, none⟩ := by unfold Addr.add; split <;> simp_all
      rw [e] at c
      exact c
    · simp [World.frozen?, hg]
theorem lev_zero {x : Dr} (h : okD x) : levD x 0 = x.a := by
  have := cap_bd h
  have h0 := h.1.1
  unfold levD
  rw [Int.zero_mul]
  omega
theorem own_call {Bs n : Nat} {v : Value} {xs : List Value} (h : W.ownsRow Bs 3 1 v n xs) (hb : Below W.heap.size W W1) : W1.ownsRow Bs 3 1 v n xs :=
  h.kept (row := none) ⟨hb.os, hb.tape, hb.output, hb.size, fun k hk _ => hb.block k hk⟩ (by cases hv : v.ownBlock <;> simp)
end
theorem range_row (f : Nat → Int) (j : Nat) : (List.range (j + 1)).map (fun i => Value.int .i64 (f i)) = (List.range j).map (fun i => Value.int .i64 (f i)) ++ [.int .i64 (f j)] := by
  rw [List.range_succ, List.map_append]
  rfl
theorem step_bd {k : Nat} {L : Nat → Dr} {o : Nat → Int} (hok : okL k L) (h : ∀ i, i < k → (L i).a ≤ o i ∧ o i ≤ capD (L i)) : ∀ i, i < k → (L i).a ≤ stepF k L o i ∧ stepF k L o i ≤ capD (L i) := by
  intro i hi
  have hh := h i hi
  unfold stepF
  split
  · exact hh
  · rename_i hp
    rcases pick_spec (L := L) (o := o) (k := k) (fun j hj => by have := (hok j hj).2.2.1; omega) with ⟨e, _⟩ | ⟨n, e, hnk, hcn, _⟩
    · omega
    · rw [e, Int.toNat_natCast]
      unfold upd
      by_cases e2 : i = n
      · subst e2
        rw [if_pos rfl]
        omega
      · rw [if_neg e2]
        exact hh
theorem gv_bd {k : Nat} {L : Nat → Dr} {o : Nat → Int} (hok : okL k L) (h : ∀ i, i < k → (L i).a ≤ o i ∧ o i ≤ capD (L i)) : ∀ n, ∀ i, i < k → (L i).a ≤ gv k L o n i ∧ gv k L o n i ≤ capD (L i)
  | 0 => h
  | n + 1 => step_bd hok (gv_bd hok h n)
theorem gv_in {k : Nat} {L : Nat → Dr} {o : Nat → Int} (hok : okL k L) (h : ∀ i, i < k → (L i).a ≤ o i ∧ o i ≤ capD (L i)) (n i : Nat) (hi : i < k) : 0 ≤ gv k L o n i ∧ gv k L o n i ≤ 1073741824 := by
  have a := gv_bd hok h n i hi
  have b := cap_bd (hok i hi)
  have c := (hok i hi).1.1
  omega
end Go.Proofs.Ytfopcmiphklcdaa
