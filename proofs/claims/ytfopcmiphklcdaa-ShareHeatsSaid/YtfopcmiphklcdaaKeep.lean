/- What a walk carries from call to call: blocks and the frame below. -/
import Derived.Test.YtfopcmiphklcdaaBase
namespace Go.Proofs.Ytfopcmiphklcdaa
open Go.RowKit

/-- Below w's end nothing has changed, and these blocks stand. -/
def Kp (w W : World) : List (Nat × TypeId × Array Value) → Prop
  | [] => Below w.heap.size w W
  | e :: l => Blk W e.1 e.2.1 e.2.2 ∧ Kp w W l
section
variable {w W W1 : World} {l : List (Nat × TypeId × Array Value)}
theorem Kp.below : ∀ {l}, Kp w W l → Below w.heap.size w W
  | [], h => h
  | _ :: _, h => Kp.below h.2
theorem Kp.drew : ∀ {l}, Kp w W l → Kp w W.drew l
  | [], h => Below.drew h
  | _ :: _, h => ⟨h.1, Kp.drew h.2⟩
theorem Kp.drewN (n : Nat) : ∀ {l}, Kp w W l → Kp w (W.drewN n) l
  | [], h => below_drewN h n
  | _ :: _, h => ⟨h.1, Kp.drewN n h.2⟩
theorem Kp.alloc (o : Obj) : ∀ {l}, Kp w W l → Kp w (W.alloc o) l
  | [], h => below_box h o
  | _ :: _, h => ⟨h.1.alloc o, Kp.alloc o h.2⟩
theorem Kp.new (h : Kp w W l) (cs : Array Value) (t : TypeId) : Kp w (W.alloc (.cells cs t)) ((W.heap.size, t, cs) :: l) := ⟨Blk.new W t cs, h.alloc _⟩
theorem Kp.call (hb : Below W.heap.size W W1) : ∀ {l}, Kp w W l → Kp w W1 l
  | [], h => below_call h hb
  | _ :: _, h => ⟨(h.1.next hb).1, Kp.call hb h.2⟩
theorem Kp.far {b i : Nat} (hw : w.heap.size ≤ b) (u : Value) : ∀ {l : List (Nat × TypeId × Array Value)}, (∀ e ∈ l, e.1 ≠ b) → Kp w W l → Kp w (W.setCell ⟨b, i, none⟩ u) l
  | [], _, h => below_set h hw u
  | e :: _, hl, h => ⟨h.1.far (p := ⟨b, i, none⟩) (hl e (by simp)) u, Kp.far hw u (fun x hx => hl x (by simp [hx])) h.2⟩
theorem Kp.base (w : World) : Kp w w [] := Below.refl w.heap.size w
/-- An old cell is as it was. -/
theorem Kp.old (h : Kp w W l) {b o : Nat} {u : Value} (hb : Hid (b < w.heap.size)) (r : Hid (w.cell? ⟨b, o, none⟩ = some u)) : W.cell? ⟨b, o, none⟩ = some u := (h.below.cell (p := ⟨b, o, none⟩) hb.out).trans r.out
end
end Go.Proofs.Ytfopcmiphklcdaa
