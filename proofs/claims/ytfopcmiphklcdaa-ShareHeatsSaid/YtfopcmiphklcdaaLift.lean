/- What every law of this seat shares: from 'called at any readable arguments the Go function returns true and nothing below the old heap has turned' to what the row asks behind the call. Its conditions: the program's types can be read. -/
import Derived.Test.YtfopcmiphklcdaaRows
import Derived.WalkKit
import Derived.ProofKit
import Derived.OpenVars
namespace Go.Proofs.Ytfopcmiphklcdaa
open Go.ChangeShapes Go.WideShapes Go.ChangeAt Go.RowKit

theorem Try.own : ownKnob Try.prog.godebug = none := by kernel_rfl
theorem Try.laidOut : laidOutB Try.prog = true := by kernel_rfl

/-- All parameter types can be read and are rows of the table: one closed fact a function. -/
def parmsRead (P : Program) (ts : List TypeId) : Bool := ts.all fun t => P.readableRec t && decide (t < P.types.size)

theorem trodAll_stays {H : Type} {enc : TypeId × Value → H} {P : Program} (hl : laidOutB P = true) {W W' : World} (hb : Below W.heap.size W W') :
    ∀ {ts : List TypeId} {vs : List Value} {ds : List (DataW H)} {ps : List MemPlace}, parmsRead P ts = true → DataW.TrodAll enc P W 0 (fun _ => true) true ts vs ds ps → (∀ x ∈ ps, x.block < W.heap.size) →
      DataW.TrodAll enc P W' 0 (fun b => decide (b < W.heap.size)) true ts vs ds ps
  | [], _, _, _, _, h, _ => by
    obtain ⟨rfl, rfl, rfl⟩ := trodAll_nil h
    exact trodAll_mk0
  | _ :: _, _, _, _, hr, h, hlt => by
    obtain ⟨v, vs1, d, ds1, a, b, rfl, rfl, rfl, h1, h2⟩ := trodAll_cons h
    simp only [parmsRead, List.all_cons, Bool.and_eq_true, decide_eq_true_eq] at hr
    exact ⟨a, b, Below.trod hl hr.1.1 hr.1.2 h1 hb (fun x hx => hlt x (List.mem_append_left _ hx)), trodAll_stays hl hb (by simpa [parmsRead] using hr.2) h2 (fun x hx => hlt x (List.mem_append_right _ hx)), rfl⟩

/-- THE POST of a law: true came back, the arguments read as they did. -/
theorem post_law {H : Type} {enc : TypeId × Value → H} {P : Program} {f : Func} {s : ChangeSpec} {tb : TypeId} {W W' : World} {args : Array Value} {ds gs : List (DataW H)} {before : List MemPlace}
    (hl : laidOutB P = true) (hr : parmsRead P f.params.toList = true) (hrt : f.resultTypes = #[tb]) (htb : P.underlying tb = some .bool) (hvr : varsRowed P s.vars = true)
    (hW : DataW.Whole enc P f.params.toList s.vars false W args.toList ds gs before)
    (hfn : s.fn H (ds ++ gs) = { results := [.lit (.bool true)], args := ds, vars := gs })
    (hb : Below W.heap.size W W') : s.post enc P f false true false false W args (.bool true) W' := by
  have hlt : ∀ x ∈ before, x.block < W.heap.size := fun x hx => hW.lt x hx
  obtain ⟨p, q, hA, hV, rfl, hz, hn⟩ := hW
  refine ⟨ds, gs, p ++ q, [], p, q, ⟨p, q, hA, hV, rfl, hz, hn⟩, ?_, ?_, ?_, World.keptBut_mono (fun x hx => ⟨hx, ?_⟩) (hb.frame (· ∈ p ++ q)), fun h => by cases h⟩
  · rw [hfn, hrt]
    exact trodAll_mk1 (shut_bool htb true)
  · rw [hfn]
    exact trodAll_stays hl hb hr hA (fun x hx => hlt x (List.mem_append_left _ hx))
  · rw [hfn]
    exact Below.trodVars hl hb hvr hV
  · rcases List.mem_append.1 hx with h | h
    · exact .inr (.inl h)
    · exact .inr (.inr h)

theorem trodAll_length {H : Type} {enc : TypeId × Value → H} {P : Program} {W : World} {b : Nat} {sp : Nat → Bool} {held : Bool} :
    ∀ {ts : List TypeId} {vs : List Value} {ds : List (DataW H)} {ps : List MemPlace}, DataW.TrodAll enc P W b sp held ts vs ds ps → ds.length = ts.length
  | [], _, _, _, h => by
    obtain ⟨_, rfl, _⟩ := trodAll_nil h
    rfl
  | _ :: _, _, _, _, h => by
    obtain ⟨v, vs1, d, ds1, a, b, _, rfl, _, _, h2⟩ := trodAll_cons h
    simp [trodAll_length h2]

/-- THE STEP of a law without listed variables: from the walk at any readable arguments to the form's word. -/
theorem law_lifted {H : Type} {enc : TypeId × Value → H} {C : Checked} {os : Os} {F : FuncId} {fn : Func} {s : ChangeSpec} {tb : TypeId} (started : os.Started)
    (own : ownKnob C.prog.godebug = none) (noInit : C.prog.inits.idxOf? F = none) (hfn : C.prog.funcs[F]? = some fn) (hl : laidOutB C.prog = true)
    (hr : parmsRead C.prog fn.params.toList = true) (hrt : fn.resultTypes = #[tb]) (htb : C.prog.underlying tb = some .bool) (hvars : s.vars = [])
    (hspec : ∀ ds : List (DataW H), ds.length = fn.params.toList.length → s.fn H ds = { results := [.lit (.bool true)], args := ds })
    (witness : ∃ (w : World) (tape : Tape) (i : Input), w.os = os ∧ (w.forCall tape i).Shaped C.prog ∧ i.vars = [] ∧ Input.okWide C.prog (w.forCall tape i) .any w.heap.size F i ∧
      s.pre6 enc C.prog fn [] false (w.forCall tape i).memory i.args ∧ Assume.holds {} C.prog (lone (Frame.enter C.prog F i.args .normal) [] (w.forCall tape i)))
    (walk : ∀ (W : World) (base : Nat) (args : Array Value) (ds : List (DataW H)) (p : List MemPlace),
      (∀ (j : Nat) t v, fn.params[j]? = some t → args[j]? = some v → Value.okWide C.prog W .any base t v) →
      DataW.TrodAll enc C.prog W 0 (fun _ => true) true fn.params.toList args.toList ds p →
      Calls C.prog F args W fun e w' => e = .returned (.bool true) ∧ Below W.heap.size W w') :
    ReturnsInHanded {} C os F .any (s.pre6 enc C.prog fn [] false) (s.post enc C.prog fn false true false false) := by
  refine returnsInHanded_of_change own started noInit hfn witness ?_
  intro W base args ds gs before hval hW _ _
  have hW' := hW
  obtain ⟨p, q, hA, hV, _, _, _⟩ := hW'
  have hg : gs = [] := by
    rw [hvars] at hV
    exact (trodVars_none hV).1
  refine (walk W base args ds p hval hA).mono fun e W' ⟨he, hb⟩ => ⟨_, he, ?_⟩
  refine post_law hl hr hrt htb (by rw [hvars]; rfl) hW ?_ hb
  rw [hg, List.append_nil]
  exact hspec ds (trodAll_length hA)
end Go.Proofs.Ytfopcmiphklcdaa
