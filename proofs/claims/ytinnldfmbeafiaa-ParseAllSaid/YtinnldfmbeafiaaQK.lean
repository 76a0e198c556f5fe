/- Keywords, and where a word is in a list. -/
import Derived.Test.YtinnldfmbeafiaaQA
import Derived.Test.YtinnldfmbeafiaaPAx6
namespace Go.Proofs.Ytinnldfmbeafiaa.PA
open Go.RowKit Go.Proofs.YtinnldfmbeafiaaW.PrintWords Go.Proofs.YtinnldfmbeafiaaW.PrintLast Go.Proofs.YtinnldfmbeafiaaW.PrintMore
set_option linter.unusedVariables false
set_option linter.unusedSimpArgs false
theorem ev_if {α : Type} {c : Prop} [Decidable c] {f g : Nat → Option α} {r : α} (h : c) (k : Ev f r) : Ev (fun n => if c then f n else g n) r := by
  simpa only [if_pos h] using k
theorem ev_else {α : Type} {c : Prop} [Decidable c] {f g : Nat → Option α} {r : α} (h : ¬ c) (k : Ev g r) : Ev (fun n => if c then f n else g n) r := by
  simpa only [if_neg h] using k
theorem ev_bind0 {α β : Type} {f : Option α} {g : Nat → α → Option β} {a : α} {r : β} (h : f = some a) (k : Ev (fun n => g n a) r) : Ev (fun n => f.bind (g n)) r := by
  subst h
  exact k
theorem ev_eq {α : Type} {g : Nat → Option α} {r r' : α} (h : Ev g r) (e : r = r') : Ev g r' := e ▸ h
theorem w64 {n : Int} (h : -9223372036854775808 ≤ n) (h2 : n < 9223372036854775808) : wrap64 n = n := by
  unfold wrap64
  omega
theorem rdOf_nat (L : List ByteArray) (d : ByteArray) (i : Nat) (h : i < L.length) : rdOf d L (i : Int) = L[i] := by
  unfold rdOf
  simp [h]
/-- Where a word is first; -1: nowhere. -/
def ixS : List ByteArray → ByteArray → Nat → Int
  | [], _, _ => -1
  | w :: l, x, i => if x.toList = w.toList then (i : Int) else ixS l x (i + 1)
theorem index_ev (L : List ByteArray) (x : ByteArray) (hL : L.length ≤ 1000000) : Ev (fun k => slices_Index_string_string.f k L x) (ixS L x 0) := by
  have : ∀ (d i : Nat), L.length - i = d → i ≤ L.length → Ev (fun k => slices_Index_string_string.l0 k L x (L.length : Int) (i : Int)) (ixS (L.drop i) x i) := by
    intro d
    induction d with
    | zero =>
      intro i h1 h2
      refine Ev.step (fun k => by simp only [slices_Index_string_string.l0]; rfl) (ev_else (by omega) ?_)
      rw [List.drop_of_length_le (by omega)]
      exact Ev.now _
    | succ d ih =>
      intro i h1 h2
      have hi : i < L.length := by omega
      have hr := ih (i + 1) (by omega) (by omega)
      refine Ev.step (fun k => by simp only [slices_Index_string_string.l0]; rfl) (ev_if (by omega) (ev_if (by omega) (ev_if (by omega) ?_)))
      rw [rdOf_nat L _ i hi, List.drop_eq_getElem_cons hi, ixS]
      by_cases he : x.toList = L[i].toList
      · rw [if_pos he]
        exact ev_if he (Ev.now _)
      · rw [if_neg he]
        refine ev_else he ?_
        rw [w64 (by omega) (by omega)]
        exact hr
  have := this L.length 0 (by omega) (by omega)
  unfold slices_Index_string_string.f
  simpa using this
def kwWords : List ByteArray := [(⟨#[108, 105, 116, 109, 117, 115]⟩ : ByteArray), (⟨#[118, 97, 108, 117, 101, 115]⟩ : ByteArray), (⟨#[105, 110, 105, 116]⟩ : ByteArray), (⟨#[116, 104, 114, 101, 97, 100]⟩ : ByteArray), (⟨#[108, 111, 97, 100]⟩ : ByteArray), (⟨#[97, 100, 100]⟩ : ByteArray), (⟨#[99, 97, 115]⟩ : ByteArray), (⟨#[115, 116, 111, 114, 101]⟩ : ByteArray), (⟨#[102, 101, 110, 99, 101]⟩ : ByteArray), (⟨#[105, 102]⟩ : ByteArray), (⟨#[101, 108, 115, 101]⟩ : ByteArray), (⟨#[101, 120, 105, 115, 116, 115]⟩ : ByteArray), (⟨#[102, 111, 114, 97, 108, 108]⟩ : ByteArray), (⟨#[97, 110, 100]⟩ : ByteArray), (⟨#[111, 114]⟩ : ByteArray), (⟨#[110, 111, 116]⟩ : ByteArray), (⟨#[114, 108, 120]⟩ : ByteArray), (⟨#[97, 99, 113]⟩ : ByteArray), (⟨#[114, 101, 108]⟩ : ByteArray), (⟨#[97, 99, 113, 114, 101, 108]⟩ : ByteArray), (⟨#[115, 99]⟩ : ByteArray)]
/-- Is a word the language's own? -/
def kwS (x : ByteArray) : Bool := decide (ixS kwWords x 0 ≥ 0)
theorem keyword_f (x : ByteArray) : Ev (fun k => lex_Keyword.f k x) (kwS x) := by
  have hr := index_ev kwWords x (by decide)
  unfold lex_Keyword.f slices_Contains_string_string.f
  exact Ev.bind (Ev.bind hr (Ev.now _)) (Ev.now _)
theorem keyword_c (x : ByteArray) (w : World) : Calls Try.prog 94 #[.string x] w fun e w' => e = .returned (.bool (kwS x)) ∧ Below w.heap.size w w' := by
  obtain ⟨k, hk⟩ := (keyword_f x).rounds
  exact lex_Keyword.calls k x (kwS x) w hk
def modes : List ByteArray := [(⟨#[114, 108, 120]⟩ : ByteArray), (⟨#[97, 99, 113]⟩ : ByteArray), (⟨#[114, 101, 108]⟩ : ByteArray), (⟨#[97, 99, 113, 114, 101, 108]⟩ : ByteArray), (⟨#[115, 99]⟩ : ByteArray)]
theorem modes_c (x : ByteArray) (w : World) (A : Option Addr) (c : Nat) (hr : Kd.C Kd.string w A modes.length modes) (hc : modes.length ≤ c) : Calls Try.prog 108 #[.slice A modes.length c, .string x] w fun e w' => e = .returned (.int .i64 (ixS modes x 0)) ∧ Below w.heap.size w w' := by
  obtain ⟨k, hk⟩ := (index_ev modes x (by decide)).rounds
  exact (slices_Index_string_string.calls k A c modes x _ w hr hc hk).mono (fun e w' h => ⟨h.1, h.2.below⟩)
end Go.Proofs.Ytinnldfmbeafiaa.PA
