/- The toolkit for printed functions: from some number of rounds on. -/
import Derived.Test.YtcehnbneiabaaaaDoorPRx2
namespace Go.Proofs.YtcehnbneiabaaaaDoor.PR
open Go.RowKit Go.Proofs.YtcehnbneiabaaaaDoorW.PrintWords Go.Proofs.YtcehnbneiabaaaaDoorW.PrintLast Go.Proofs.YtcehnbneiabaaaaDoorW.PrintMore
set_option linter.unusedVariables false
set_option linter.unusedSimpArgs false

theorem ev_if {α : Type} {c : Prop} [Decidable c] {f g : Nat → Option α} {r : α} (h : c) (k : Ev f r) : Ev (fun n => if c then f n else g n) r := by
  simpa only [if_pos h] using k
theorem ev_else {α : Type} {c : Prop} [Decidable c] {f g : Nat → Option α} {r : α} (h : ¬ c) (k : Ev g r) : Ev (fun n => if c then f n else g n) r := by
  simpa only [if_neg h] using k
theorem ev_ite {α : Type} {c : Prop} [Decidable c] {f g : Nat → Option α} {r : α} (h1 : c → Ev f r) (h2 : ¬ c → Ev g r) : Ev (fun n => if c then f n else g n) r := by
  by_cases h : c
  · exact ev_if h (h1 h)
  · exact ev_else h (h2 h)
theorem ev_bind0 {α β : Type} {f : Option α} {g : Nat → α → Option β} {a : α} {r : β} (h : f = some a) (k : Ev (fun n => g n a) r) : Ev (fun n => f.bind (g n)) r := by
  subst h
  exact k
theorem ev_eq {α : Type} {g : Nat → Option α} {r r' : α} (h : Ev g r) (e : r = r') : Ev g r' := e ▸ h
theorem ev_some {α : Type} {g : Option α} {r : α} (h : g = some r) : Ev (fun _ => g) r := by
  subst h
  exact Ev.now _
theorem w64 {n : Int} (h : -9223372036854775808 ≤ n) (h2 : n < 9223372036854775808) : wrap64 n = n := by
  unfold wrap64
  omega
end Go.Proofs.YtcehnbneiabaaaaDoor.PR
