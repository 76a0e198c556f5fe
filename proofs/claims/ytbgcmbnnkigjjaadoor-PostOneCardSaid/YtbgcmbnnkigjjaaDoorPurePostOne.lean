/- PostOne: an outcome has just the values that it has. For all numbers. -/
import Derived.Test.YtbgcmbnnkigjjaaDoorPPx21
import Derived.Test.YtbgcmbnnkigjjaaDoorPPx10
namespace Go.Proofs.YtbgcmbnnkigjjaaDoor.Pure
open Go.RowKit Go.Proofs.YtbgcmbnnkigjjaaDoor.PP Go.Proofs.YtbgcmbnnkigjjaaDoorW.PrintWords Go.Proofs.YtbgcmbnnkigjjaaDoorW.PrintLast
set_option linter.unusedVariables false
set_option linter.unusedSimpArgs false

theorem ev_if {α : Type} {c : Prop} [Decidable c] {f g : Nat → Option α} {r : α} (h : c) (k : Ev f r) : Ev (fun n => if c then f n else g n) r := by
  simpa only [if_pos h] using k
theorem ev_else {α : Type} {c : Prop} [Decidable c] {f g : Nat → Option α} {r : α} (h : ¬ c) (k : Ev g r) : Ev (fun n => if c then f n else g n) r := by
  simpa only [if_neg h] using k
theorem ev_bind0 {α β : Type} {f : Option α} {g : Nat → α → Option β} {a : α} {r : β} (h : f = some a) (k : Ev (fun n => g n a) r) : Ev (fun n => f.bind (g n)) r := by
  subst h
  exact k
theorem begun_ev : Ev (fun k => withelaw11_begun.f k) true := Ev.of withelaw11_begun.mono (k := 60) (by kernel_rfl)
theorem mem0 (n a b c d e f : Int) : Ev (fun k => post_Holds.f k 1 0 (⟨#[120]⟩ : ByteArray) n [] [(⟨#[120]⟩ : ByteArray), (⟨#[121]⟩ : ByteArray)] [[(⟨#[97]⟩ : ByteArray), (⟨#[98]⟩ : ByteArray)], [(⟨#[97]⟩ : ByteArray), (⟨#[99]⟩ : ByteArray)]] [[a, b], [c, d]] [e, f]) (e == n, true) :=
  Ev.of (fun k => post_Holds.mono _ _ _ _ _ _ _ _ _ k) (k := 20) (by kernel_rfl)
theorem mem1 (n a b c d e f : Int) : Ev (fun k => post_Holds.f k 1 0 (⟨#[121]⟩ : ByteArray) n [] [(⟨#[120]⟩ : ByteArray), (⟨#[121]⟩ : ByteArray)] [[(⟨#[97]⟩ : ByteArray), (⟨#[98]⟩ : ByteArray)], [(⟨#[97]⟩ : ByteArray), (⟨#[99]⟩ : ByteArray)]] [[a, b], [c, d]] [e, f]) (f == n, true) :=
  Ev.of (fun k => post_Holds.mono _ _ _ _ _ _ _ _ _ k) (k := 20) (by kernel_rfl)
theorem reg00 (n a b c d e f : Int) : Ev (fun k => post_Holds.f k 2 0 (⟨#[97]⟩ : ByteArray) n [] [(⟨#[120]⟩ : ByteArray), (⟨#[121]⟩ : ByteArray)] [[(⟨#[97]⟩ : ByteArray), (⟨#[98]⟩ : ByteArray)], [(⟨#[97]⟩ : ByteArray), (⟨#[99]⟩ : ByteArray)]] [[a, b], [c, d]] [e, f]) (a == n, true) :=
  Ev.of (fun k => post_Holds.mono _ _ _ _ _ _ _ _ _ k) (k := 20) (by kernel_rfl)
theorem reg01 (n a b c d e f : Int) : Ev (fun k => post_Holds.f k 2 0 (⟨#[98]⟩ : ByteArray) n [] [(⟨#[120]⟩ : ByteArray), (⟨#[121]⟩ : ByteArray)] [[(⟨#[97]⟩ : ByteArray), (⟨#[98]⟩ : ByteArray)], [(⟨#[97]⟩ : ByteArray), (⟨#[99]⟩ : ByteArray)]] [[a, b], [c, d]] [e, f]) (b == n, true) :=
  Ev.of (fun k => post_Holds.mono _ _ _ _ _ _ _ _ _ k) (k := 20) (by kernel_rfl)
theorem reg10 (n a b c d e f : Int) : Ev (fun k => post_Holds.f k 2 1 (⟨#[97]⟩ : ByteArray) n [] [(⟨#[120]⟩ : ByteArray), (⟨#[121]⟩ : ByteArray)] [[(⟨#[97]⟩ : ByteArray), (⟨#[98]⟩ : ByteArray)], [(⟨#[97]⟩ : ByteArray), (⟨#[99]⟩ : ByteArray)]] [[a, b], [c, d]] [e, f]) (c == n, true) :=
  Ev.of (fun k => post_Holds.mono _ _ _ _ _ _ _ _ _ k) (k := 20) (by kernel_rfl)
theorem reg11 (n a b c d e f : Int) : Ev (fun k => post_Holds.f k 2 1 (⟨#[99]⟩ : ByteArray) n [] [(⟨#[120]⟩ : ByteArray), (⟨#[121]⟩ : ByteArray)] [[(⟨#[97]⟩ : ByteArray), (⟨#[98]⟩ : ByteArray)], [(⟨#[97]⟩ : ByteArray), (⟨#[99]⟩ : ByteArray)]] [[a, b], [c, d]] [e, f]) (d == n, true) :=
  Ev.of (fun k => post_Holds.mono _ _ _ _ _ _ _ _ _ k) (k := 20) (by kernel_rfl)
theorem w1 : wrap64 (0 + 1) = 1 := by kernel_rfl
theorem w2 : wrap64 (1 + 1) = 2 := by kernel_rfl
theorem no_bne (b : Bool) : ¬ ((b != b) = true) := by simp
theorem PostOne (a0 a1 a2 a3 a4 a5 v : Int) : ∃ k, withelaw11_PostOne.f k a0 a1 a2 a3 a4 a5 v = some true := by
  refine Ev.rounds ?_
  unfold withelaw11_PostOne.f
  refine Ev.bind begun_ev (ev_if rfl (ev_bind0 rfl (ev_bind0 rfl ?_)))
  show Ev (fun n => withelaw11_PostOne.l0 n [(⟨#[120]⟩ : ByteArray), (⟨#[121]⟩ : ByteArray)] [[(⟨#[97]⟩ : ByteArray), (⟨#[98]⟩ : ByteArray)], [(⟨#[97]⟩ : ByteArray), (⟨#[99]⟩ : ByteArray)]] (wrap64 (Int.tmod v 3)) 0 [[wrap64 (Int.tmod a0 3), wrap64 (Int.tmod a1 3)], [wrap64 (Int.tmod a2 3), wrap64 (Int.tmod a3 3)]] [wrap64 (Int.tmod a4 3), wrap64 (Int.tmod a5 3)]) true
  generalize wrap64 (Int.tmod a0 3) = a
  generalize wrap64 (Int.tmod a1 3) = b
  generalize wrap64 (Int.tmod a2 3) = c
  generalize wrap64 (Int.tmod a3 3) = d
  generalize wrap64 (Int.tmod a4 3) = e
  generalize wrap64 (Int.tmod a5 3) = f
  generalize wrap64 (Int.tmod v 3) = n
  refine Ev.step (fun k => by simp only [withelaw11_PostOne.l0]; rfl) ?_
  try simp only [w1, w2]
  refine ev_if (by decide) (ev_if (by decide) (ev_if (by decide) ?_))
  refine Ev.bind (mem0 n a b c d e f) (ev_if rfl (ev_if (show (0 : Int) < 2 by decide) ?_))
  refine Ev.step (fun k => by simp only [withelaw11_PostOne.j1]; rfl) ?_
  try simp only [w1, w2]
  refine ev_else (no_bne (e == n)) ?_
  refine Ev.step (fun k => by simp only [withelaw11_PostOne.l1]; rfl) ?_
  try simp only [w1, w2]
  refine ev_if (by decide) (ev_if (by decide) (ev_if (by decide) (ev_if (by decide) (ev_if (by decide) ?_))))
  refine Ev.bind (reg00 n a b c d e f) (ev_if rfl (ev_if (show (0 : Int) < 2 by decide) (ev_if (show (0 : Int) < 2 by decide) (ev_else (no_bne (a == n)) ?_))))
  refine Ev.step (fun k => by simp only [withelaw11_PostOne.l1]; rfl) ?_
  try simp only [w1, w2]
  refine ev_if (by decide) (ev_if (by decide) (ev_if (by decide) (ev_if (by decide) (ev_if (by decide) ?_))))
  refine Ev.bind (reg01 n a b c d e f) (ev_if rfl (ev_if (show (0 : Int) < 2 by decide) (ev_if (show (1 : Int) < 2 by decide) (ev_else (no_bne (b == n)) ?_))))
  refine Ev.step (fun k => by simp only [withelaw11_PostOne.l1]; rfl) ?_
  try simp only [w1, w2]
  refine ev_else (by decide) ?_
  refine Ev.step (fun k => by simp only [withelaw11_PostOne.l0]; rfl) ?_
  try simp only [w1, w2]
  refine ev_if (by decide) (ev_if (by decide) (ev_if (by decide) ?_))
  refine Ev.bind (mem1 n a b c d e f) (ev_if rfl (ev_if (show (1 : Int) < 2 by decide) ?_))
  refine Ev.step (fun k => by simp only [withelaw11_PostOne.j1]; rfl) ?_
  try simp only [w1, w2]
  refine ev_else (no_bne (f == n)) ?_
  refine Ev.step (fun k => by simp only [withelaw11_PostOne.l1]; rfl) ?_
  try simp only [w1, w2]
  refine ev_if (by decide) (ev_if (by decide) (ev_if (by decide) (ev_if (by decide) (ev_if (by decide) ?_))))
  refine Ev.bind (reg10 n a b c d e f) (ev_if rfl (ev_if (show (1 : Int) < 2 by decide) (ev_if (show (0 : Int) < 2 by decide) (ev_else (no_bne (c == n)) ?_))))
  refine Ev.step (fun k => by simp only [withelaw11_PostOne.l1]; rfl) ?_
  try simp only [w1, w2]
  refine ev_if (by decide) (ev_if (by decide) (ev_if (by decide) (ev_if (by decide) (ev_if (by decide) ?_))))
  refine Ev.bind (reg11 n a b c d e f) (ev_if rfl (ev_if (show (1 : Int) < 2 by decide) (ev_if (show (1 : Int) < 2 by decide) (ev_else (no_bne (d == n)) ?_))))
  refine Ev.step (fun k => by simp only [withelaw11_PostOne.l1]; rfl) ?_
  try simp only [w1, w2]
  refine ev_else (by decide) ?_
  refine Ev.step (fun k => by simp only [withelaw11_PostOne.l0]; rfl) ?_
  try simp only [w1, w2]
  exact ev_else (by decide) (Ev.now _)
end Go.Proofs.YtbgcmbnnkigjjaaDoor.Pure
