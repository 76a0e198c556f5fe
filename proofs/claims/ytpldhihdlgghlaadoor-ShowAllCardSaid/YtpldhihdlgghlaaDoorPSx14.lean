-- made by fvprint.py over the kit's print
import Derived.Test.YtpldhihdlgghlaaDoorPSx0
import Derived.Test.YtpldhihdlgghlaaDoorPSx13
import Derived.Test.YtpldhihdlgghlaaDoorPSx8
import Derived.Test.YtpldhihdlgghlaaDoorPSx9
namespace Go.Proofs.YtpldhihdlgghlaaDoor.PS
open Go.RowKit Go.Proofs.YtpldhihdlgghlaaDoorW.PrintWords Go.Proofs.YtpldhihdlgghlaaDoorW.PrintLast Go.Proofs.YtpldhihdlgghlaaDoorW.PrintMore
attribute [local go_sem] max2_int min2_int max_two min_two max_three min_three max_four min_four   -- for this text's walks alone
set_option linter.unusedVariables false
set_option linter.unusedSimpArgs false

attribute [local go_sem] cell_set_some
/-! ### witheref6_Prog: function 9 -/
mutual
def witheref6_Prog.l0 : Nat → ByteArray → Int → ByteArray → Int → List (S42) → List (List (S45)) → Int → Int → Int → ByteArray → Int → List (S26) → Option (ByteArray)
 | 0, _, _, _, _, _, _, _, _, _, _, _, _ => none
 | k + 1, x3, x4, x221000, x221001, x221002, x221003, x221004, x221005, x221006, x221007, x221008, x221009 => if x4 < (x221002.length : Int) then (if x3.size + 5 ≤ 9223372036854775807 then (if 0 ≤ x4 then (if (x3 ++ (⟨#[105, 110, 105, 116, 32]⟩ : ByteArray)).size + ((rd_T42 x221002 x4).f0).size ≤ 9223372036854775807 then (if ((x3 ++ (⟨#[105, 110, 105, 116, 32]⟩ : ByteArray)) ++ ((rd_T42 x221002 x4).f0)).size + 1 ≤ 9223372036854775807 then ((witheref6_Digits.f k ((rd_T42 x221002 x4).f1)).bind fun t224 => (if (((x3 ++ (⟨#[105, 110, 105, 116, 32]⟩ : ByteArray)) ++ ((rd_T42 x221002 x4).f0)) ++ (⟨#[32]⟩ : ByteArray)).size + t224.size ≤ 9223372036854775807 then (if ((((x3 ++ (⟨#[105, 110, 105, 116, 32]⟩ : ByteArray)) ++ ((rd_T42 x221002 x4).f0)) ++ (⟨#[32]⟩ : ByteArray)) ++ t224).size + 1 ≤ 9223372036854775807 then (witheref6_Prog.l0 k (((((x3 ++ (⟨#[105, 110, 105, 116, 32]⟩ : ByteArray)) ++ ((rd_T42 x221002 x4).f0)) ++ (⟨#[32]⟩ : ByteArray)) ++ t224) ++ (⟨#[10]⟩ : ByteArray)) (wrap64 (x4 + 1)) x221000 x221001 x221002 x221003 x221004 x221005 x221006 x221007 x221008 x221009) else (none)) else (none))) else (none)) else (none)) else (none)) else (none)) else (witheref6_Prog.l1 k x3 0 x221000 x221001 x221002 x221003 x221004 x221005 x221006 x221007 x221008 x221009)
def witheref6_Prog.l1 : Nat → ByteArray → Int → ByteArray → Int → List (S42) → List (List (S45)) → Int → Int → Int → ByteArray → Int → List (S26) → Option (ByteArray)
 | 0, _, _, _, _, _, _, _, _, _, _, _, _ => none
 | k + 1, x3, x5, x221000, x221001, x221002, x221003, x221004, x221005, x221006, x221007, x221008, x221009 => if x5 < (x221003.length : Int) then (if x3.size + 9 ≤ 9223372036854775807 then (if 0 ≤ x5 then ((witheref6_lines.f k (rd_L8 x221003 x5) 1).bind fun t226 => (if (x3 ++ (⟨#[116, 104, 114, 101, 97, 100, 32, 123, 10]⟩ : ByteArray)).size + t226.size ≤ 9223372036854775807 then (if ((x3 ++ (⟨#[116, 104, 114, 101, 97, 100, 32, 123, 10]⟩ : ByteArray)) ++ t226).size + 2 ≤ 9223372036854775807 then (witheref6_Prog.l1 k (((x3 ++ (⟨#[116, 104, 114, 101, 97, 100, 32, 123, 10]⟩ : ByteArray)) ++ t226) ++ (⟨#[125, 10]⟩ : ByteArray)) (wrap64 (x5 + 1)) x221000 x221001 x221002 x221003 x221004 x221005 x221006 x221007 x221008 x221009) else (none)) else (none))) else (none)) else (none)) else (if x221004 = 1 then (if x3.size + 6 ≤ 9223372036854775807 then (if (x3 ++ (⟨#[101, 120, 105, 115, 116, 115]⟩ : ByteArray)).size + 1 ≤ 9223372036854775807 then ((witheref6_Cond.f k x221005 x221006 x221007 x221008 x221009).bind fun t227 => (if ((x3 ++ (⟨#[101, 120, 105, 115, 116, 115]⟩ : ByteArray)) ++ (⟨#[32]⟩ : ByteArray)).size + t227.size ≤ 9223372036854775807 then (if (((x3 ++ (⟨#[101, 120, 105, 115, 116, 115]⟩ : ByteArray)) ++ (⟨#[32]⟩ : ByteArray)) ++ t227).size + 1 ≤ 9223372036854775807 then (some ((((x3 ++ (⟨#[101, 120, 105, 115, 116, 115]⟩ : ByteArray)) ++ (⟨#[32]⟩ : ByteArray)) ++ t227) ++ (⟨#[10]⟩ : ByteArray))) else (none)) else (none))) else (none)) else (none)) else (if x221004 = 2 then (if x3.size + 6 ≤ 9223372036854775807 then (if (x3 ++ (⟨#[102, 111, 114, 97, 108, 108]⟩ : ByteArray)).size + 1 ≤ 9223372036854775807 then ((witheref6_Cond.f k x221005 x221006 x221007 x221008 x221009).bind fun t228 => (if ((x3 ++ (⟨#[102, 111, 114, 97, 108, 108]⟩ : ByteArray)) ++ (⟨#[32]⟩ : ByteArray)).size + t228.size ≤ 9223372036854775807 then (if (((x3 ++ (⟨#[102, 111, 114, 97, 108, 108]⟩ : ByteArray)) ++ (⟨#[32]⟩ : ByteArray)) ++ t228).size + 1 ≤ 9223372036854775807 then (some ((((x3 ++ (⟨#[102, 111, 114, 97, 108, 108]⟩ : ByteArray)) ++ (⟨#[32]⟩ : ByteArray)) ++ t228) ++ (⟨#[10]⟩ : ByteArray))) else (none)) else (none))) else (none)) else (none)) else (if x3.size + 1 ≤ 9223372036854775807 then ((witheref6_Cond.f k x221005 x221006 x221007 x221008 x221009).bind fun t229 => (if (x3 ++ (⟨#[32]⟩ : ByteArray)).size + t229.size ≤ 9223372036854775807 then (if ((x3 ++ (⟨#[32]⟩ : ByteArray)) ++ t229).size + 1 ≤ 9223372036854775807 then (some (((x3 ++ (⟨#[32]⟩ : ByteArray)) ++ t229) ++ (⟨#[10]⟩ : ByteArray))) else (none)) else (none))) else (none))))
end
def witheref6_Prog.f (k : Nat) (a0_0 : ByteArray) (a0_1 : Int) (l0_2 : List (S42)) (l0_3 : List (List (S45))) (a0_4 : Int) (a0_5 : Int) (a0_6 : Int) (a0_7 : ByteArray) (a0_8 : Int) (l0_9 : List (S26)) : Option (ByteArray) := if 7 + a0_0.size ≤ 9223372036854775807 then (if ((⟨#[108, 105, 116, 109, 117, 115, 32]⟩ : ByteArray) ++ a0_0).size + 8 ≤ 9223372036854775807 then ((witheref6_Digits.f k a0_1).bind fun t221 => (if (((⟨#[108, 105, 116, 109, 117, 115, 32]⟩ : ByteArray) ++ a0_0) ++ (⟨#[32, 118, 97, 108, 117, 101, 115, 32]⟩ : ByteArray)).size + t221.size ≤ 9223372036854775807 then (if ((((⟨#[108, 105, 116, 109, 117, 115, 32]⟩ : ByteArray) ++ a0_0) ++ (⟨#[32, 118, 97, 108, 117, 101, 115, 32]⟩ : ByteArray)) ++ t221).size + 1 ≤ 9223372036854775807 then (witheref6_Prog.l0 k (((((⟨#[108, 105, 116, 109, 117, 115, 32]⟩ : ByteArray) ++ a0_0) ++ (⟨#[32, 118, 97, 108, 117, 101, 115, 32]⟩ : ByteArray)) ++ t221) ++ (⟨#[10]⟩ : ByteArray)) 0 a0_0 a0_1 l0_2 l0_3 a0_4 a0_5 a0_6 a0_7 a0_8 l0_9) else (none)) else (none))) else (none)) else (none)
theorem witheref6_Prog.mono_l : ∀ k, (∀ y0 y1 y2 y3 y4 y5 y6 y7 y8 y9 y10 y11, LeO (witheref6_Prog.l0 k y0 y1 y2 y3 y4 y5 y6 y7 y8 y9 y10 y11) (witheref6_Prog.l0 (k + 1) y0 y1 y2 y3 y4 y5 y6 y7 y8 y9 y10 y11)) ∧ (∀ y0 y1 y2 y3 y4 y5 y6 y7 y8 y9 y10 y11, LeO (witheref6_Prog.l1 k y0 y1 y2 y3 y4 y5 y6 y7 y8 y9 y10 y11) (witheref6_Prog.l1 (k + 1) y0 y1 y2 y3 y4 y5 y6 y7 y8 y9 y10 y11))
 | 0 => ⟨fun _ _ _ _ _ _ _ _ _ _ _ _ r h => by simp [witheref6_Prog.l0] at h, fun _ _ _ _ _ _ _ _ _ _ _ _ r h => by simp [witheref6_Prog.l1] at h⟩
 | k + 1 => by
  obtain ⟨ih0, ih1⟩ := witheref6_Prog.mono_l k
  refine ⟨?_, ?_⟩
  ·intro y0 y1 y2 y3 y4 y5 y6 y7 y8 y9 y10 y11
   unfold witheref6_Prog.l0
   repeat' first
   | (with_reducible exact ih0 _ _ _ _ _ _ _ _ _ _ _ _)
   | (with_reducible exact ih1 _ _ _ _ _ _ _ _ _ _ _ _)
   | (with_reducible exact witheref6_Cond.mono _ _ _ _ _ _)
   | (with_reducible exact witheref6_Digits.mono _ _)
   | (with_reducible exact witheref6_lines.mono _ _ _)
   | (with_reducible exact LeO.refl _)
   | (with_reducible exact LeO.none _)
   | (with_reducible refine LeO.ite ?_ ?_)
   | (with_reducible refine LeO.bind ?_ (fun _ => ?_))
   | exact ih0 _ _ _ _ _ _ _ _ _ _ _ _
   | exact ih1 _ _ _ _ _ _ _ _ _ _ _ _
   | exact witheref6_Cond.mono _ _ _ _ _ _
   | exact witheref6_Digits.mono _ _
   | exact witheref6_lines.mono _ _ _
   | exact LeO.none _
   | refine LeO.ite ?_ ?_
   | refine LeO.bind ?_ (fun _ => ?_)
  ·intro y0 y1 y2 y3 y4 y5 y6 y7 y8 y9 y10 y11
   unfold witheref6_Prog.l1
   repeat' first
   | (with_reducible exact ih0 _ _ _ _ _ _ _ _ _ _ _ _)
   | (with_reducible exact ih1 _ _ _ _ _ _ _ _ _ _ _ _)
   | (with_reducible exact witheref6_Cond.mono _ _ _ _ _ _)
   | (with_reducible exact witheref6_Digits.mono _ _)
   | (with_reducible exact witheref6_lines.mono _ _ _)
   | (with_reducible exact LeO.refl _)
   | (with_reducible exact LeO.none _)
   | (with_reducible refine LeO.ite ?_ ?_)
   | (with_reducible refine LeO.bind ?_ (fun _ => ?_))
   | exact ih0 _ _ _ _ _ _ _ _ _ _ _ _
   | exact ih1 _ _ _ _ _ _ _ _ _ _ _ _
   | exact witheref6_Cond.mono _ _ _ _ _ _
   | exact witheref6_Digits.mono _ _
   | exact witheref6_lines.mono _ _ _
   | exact LeO.none _
   | refine LeO.ite ?_ ?_
   | refine LeO.bind ?_ (fun _ => ?_)
theorem witheref6_Prog.mono : ∀ a0 a1 a2 a3 a4 a5 a6 a7 a8 a9 k, LeO (witheref6_Prog.f k a0 a1 a2 a3 a4 a5 a6 a7 a8 a9) (witheref6_Prog.f (k + 1) a0 a1 a2 a3 a4 a5 a6 a7 a8 a9) := by
 intro a0 a1 a2 a3 a4 a5 a6 a7 a8 a9 k
 obtain ⟨ih0, ih1⟩ := witheref6_Prog.mono_l k
 unfold witheref6_Prog.f
 repeat' first
  | (with_reducible exact ih0 _ _ _ _ _ _ _ _ _ _ _ _)
  | (with_reducible exact ih1 _ _ _ _ _ _ _ _ _ _ _ _)
  | (with_reducible exact witheref6_Cond.mono _ _ _ _ _ _)
  | (with_reducible exact witheref6_Digits.mono _ _)
  | (with_reducible exact witheref6_lines.mono _ _ _)
  | (with_reducible exact LeO.refl _)
  | (with_reducible exact LeO.none _)
  | (with_reducible refine LeO.ite ?_ ?_)
  | (with_reducible refine LeO.bind ?_ (fun _ => ?_))
  | exact ih0 _ _ _ _ _ _ _ _ _ _ _ _
  | exact ih1 _ _ _ _ _ _ _ _ _ _ _ _
  | exact witheref6_Cond.mono _ _ _ _ _ _
  | exact witheref6_Digits.mono _ _
  | exact witheref6_lines.mono _ _ _
  | exact LeO.none _
  | refine LeO.ite ?_ ?_
  | refine LeO.bind ?_ (fun _ => ?_)
def witheref6_Prog.T1 : Bool × List (List Nat × List Nat) := (true, [([], []), ([0], [0]), ([1], [1]), ([2], [2]), ([], []), ([4], [4]), ([5], [5]), ([3, 6], [3, 6]), ([7], [7]), ([8, 6, 0, 1, 2, 3, 4, 5, 6, 7, 8], [8])])
def witheref6_Prog.B1 : List Nat := [0, 1, 3, 7, 0, 16, 48, 127, 255, 511]
theorem witheref6_Prog.tab1 : rtab .any (opsOf Tryd.f9 1) = witheref6_Prog.T1 := by kernel_rfl
theorem witheref6_Prog.bits1 : waitsOk witheref6_Prog.T1.2 witheref6_Prog.B1 = true := by kernel_rfl
def witheref6_Prog.T5 : Bool × List (List Nat × List Nat) := (true, [([], []), ([0], [0]), ([], []), ([2], [2]), ([], []), ([3, 4], [3, 4]), ([5], [5]), ([6], [6]), ([1, 7], [1, 7]), ([8], [8]), ([], []), ([10], [10]), ([], []), ([11, 12], [11, 12]), ([13], [13]), ([14], [14]), ([15], [15]), ([9, 16], [9, 16]), ([17], [17]), ([18, 16, 0, 1, 2, 3, 4, 5, 6, 7, 8, 9, 10, 11, 12, 13, 14, 15, 16, 17, 18], [0, 18])])
def witheref6_Prog.B5 : List Nat := [0, 1, 0, 4, 0, 28, 60, 124, 255, 511, 0, 1024, 0, 7168, 15360, 31744, 64512, 131071, 262143, 524287]
theorem witheref6_Prog.tab5 : rtab .any (opsOf Tryd.f9 5) = witheref6_Prog.T5 := by kernel_rfl
theorem witheref6_Prog.bits5 : waitsOk witheref6_Prog.T5.2 witheref6_Prog.B5 = true := by kernel_rfl
set_option maxHeartbeats 8000000 in
set_option maxRecDepth 100000 in
theorem witheref6_Prog.calls (k : Nat) (a0_0 : ByteArray) (a0_1 : Int) (A0_2 : Option Addr) (c0_2 : Nat) (l0_2 : List (S42)) (A0_3 : Option Addr) (c0_3 : Nat) (l0_3 : List (List (S45))) (a0_4 : Int) (a0_5 : Int) (a0_6 : Int) (a0_7 : ByteArray) (a0_8 : Int) (A0_9 : Option Addr) (c0_9 : Nat) (l0_9 : List (S26)) (r : ByteArray) (w : World) (hr0_2 : Kd.C k42 w A0_2 l0_2.length l0_2) (hc0_2 : l0_2.length ≤ c0_2) (hr0_3 : Kd.C (Kd.slice 45 k45) w A0_3 l0_3.length l0_3) (hc0_3 : l0_3.length ≤ c0_3) (hr0_9 : Kd.C k26 w A0_9 l0_9.length l0_9) (hc0_9 : l0_9.length ≤ c0_9) (h : witheref6_Prog.f k a0_0 a0_1 l0_2 l0_3 a0_4 a0_5 a0_6 a0_7 a0_8 l0_9 = some r) :
 Calls Tryd.prog 9 #[.agg #[.string a0_0, .int .i64 a0_1, .slice A0_2 l0_2.length c0_2, .slice A0_3 l0_3.length c0_3, .int .i64 a0_4, .int .i64 a0_5, .int .i64 a0_6, .string a0_7, .int .i64 a0_8, .slice A0_9 l0_9.length c0_9]] w fun e w' => e = .returned (.string r) ∧ Below w.heap.size w w' := by
 have hu28 := Tryd.underlying28
 have hu26 := Tryd.underlying26
 have HR0_2 := Aside0.mk hr0_2
 have HC0_2 := Aside0.mk hc0_2
 clear hr0_2 hc0_2
 have HR0_3 := Aside0.mk hr0_3
 have HC0_3 := Aside0.mk hc0_3
 clear hr0_3 hc0_3
 have HR0_9 := Aside0.mk hr0_9
 have HC0_9 := Aside0.mk hc0_9
 clear hr0_9 hc0_9
 have HB := Aside0.mk (Below.refl w.heap.size w)
 have H : (if 7 + a0_0.size ≤ 9223372036854775807 then (if ((⟨#[108, 105, 116, 109, 117, 115, 32]⟩ : ByteArray) ++ a0_0).size + 8 ≤ 9223372036854775807 then ((witheref6_Digits.f k a0_1).bind fun t221 => (if (((⟨#[108, 105, 116, 109, 117, 115, 32]⟩ : ByteArray) ++ a0_0) ++ (⟨#[32, 118, 97, 108, 117, 101, 115, 32]⟩ : ByteArray)).size + t221.size ≤ 9223372036854775807 then (if ((((⟨#[108, 105, 116, 109, 117, 115, 32]⟩ : ByteArray) ++ a0_0) ++ (⟨#[32, 118, 97, 108, 117, 101, 115, 32]⟩ : ByteArray)) ++ t221).size + 1 ≤ 9223372036854775807 then (witheref6_Prog.l0 k (((((⟨#[108, 105, 116, 109, 117, 115, 32]⟩ : ByteArray) ++ a0_0) ++ (⟨#[32, 118, 97, 108, 117, 101, 115, 32]⟩ : ByteArray)) ++ t221) ++ (⟨#[10]⟩ : ByteArray)) 0 a0_0 a0_1 l0_2 l0_3 a0_4 a0_5 a0_6 a0_7 a0_8 l0_9) else (none)) else (none))) else (none)) else (none)) = some r := h
 clear h
 by_cases c2 : 7 + a0_0.size ≤ 9223372036854775807
 ·rw [if_pos c2] at H
  have c2b0 := eq_true c2
  have c2b1 : decide (7 + a0_0.size ≤ 9223372036854775807) = true := decide_eq_true c2
  try have c2b2 : (9223372036854775807 < 7 + a0_0.size) = False := eq_false (Nat.not_lt.2 c2)
  by_cases c3 : ((⟨#[108, 105, 116, 109, 117, 115, 32]⟩ : ByteArray) ++ a0_0).size + 8 ≤ 9223372036854775807
  ·rw [if_pos c3] at H
   have c3b0 := eq_true c3
   have c3b1 : decide (((⟨#[108, 105, 116, 109, 117, 115, 32]⟩ : ByteArray) ++ a0_0).size + 8 ≤ 9223372036854775807) = true := decide_eq_true c3
   try (have c3b1s := c3b1; simp only [ByteArray.size_append, show (⟨#[108, 105, 116, 109, 117, 115, 32]⟩ : ByteArray).size = 7 from rfl] at c3b1s)
   try have c3b2 : (9223372036854775807 < ((⟨#[108, 105, 116, 109, 117, 115, 32]⟩ : ByteArray) ++ a0_0).size + 8) = False := eq_false (Nat.not_lt.2 c3)
   try (have c3b2s := c3b2; simp only [ByteArray.size_append, show (⟨#[108, 105, 116, 109, 117, 115, 32]⟩ : ByteArray).size = 7 from rfl] at c3b2s)
   replace H := Option.bind_eq_some_iff.mp H
   obtain ⟨t221, A40, H⟩ := H
   replace H : (if (((⟨#[108, 105, 116, 109, 117, 115, 32]⟩ : ByteArray) ++ a0_0) ++ (⟨#[32, 118, 97, 108, 117, 101, 115, 32]⟩ : ByteArray)).size + t221.size ≤ 9223372036854775807 then (if ((((⟨#[108, 105, 116, 109, 117, 115, 32]⟩ : ByteArray) ++ a0_0) ++ (⟨#[32, 118, 97, 108, 117, 101, 115, 32]⟩ : ByteArray)) ++ t221).size + 1 ≤ 9223372036854775807 then (witheref6_Prog.l0 k (((((⟨#[108, 105, 116, 109, 117, 115, 32]⟩ : ByteArray) ++ a0_0) ++ (⟨#[32, 118, 97, 108, 117, 101, 115, 32]⟩ : ByteArray)) ++ t221) ++ (⟨#[10]⟩ : ByteArray)) 0 a0_0 a0_1 l0_2 l0_3 a0_4 a0_5 a0_6 a0_7 a0_8 l0_9) else (none)) else (none)) = some r := H
   have A4 := Aside0.mk A40
   clear A40
   by_cases c5 : (((⟨#[108, 105, 116, 109, 117, 115, 32]⟩ : ByteArray) ++ a0_0) ++ (⟨#[32, 118, 97, 108, 117, 101, 115, 32]⟩ : ByteArray)).size + t221.size ≤ 9223372036854775807
   ·rw [if_pos c5] at H
    have c5b0 := eq_true c5
    have c5b1 : decide ((((⟨#[108, 105, 116, 109, 117, 115, 32]⟩ : ByteArray) ++ a0_0) ++ (⟨#[32, 118, 97, 108, 117, 101, 115, 32]⟩ : ByteArray)).size + t221.size ≤ 9223372036854775807) = true := decide_eq_true c5
    try (have c5b1s := c5b1; simp only [ByteArray.size_append, show (⟨#[108, 105, 116, 109, 117, 115, 32]⟩ : ByteArray).size = 7 from rfl, show (⟨#[32, 118, 97, 108, 117, 101, 115, 32]⟩ : ByteArray).size = 8 from rfl] at c5b1s)
    try have c5b2 : (9223372036854775807 < (((⟨#[108, 105, 116, 109, 117, 115, 32]⟩ : ByteArray) ++ a0_0) ++ (⟨#[32, 118, 97, 108, 117, 101, 115, 32]⟩ : ByteArray)).size + t221.size) = False := eq_false (Nat.not_lt.2 c5)
    try (have c5b2s := c5b2; simp only [ByteArray.size_append, show (⟨#[108, 105, 116, 109, 117, 115, 32]⟩ : ByteArray).size = 7 from rfl, show (⟨#[32, 118, 97, 108, 117, 101, 115, 32]⟩ : ByteArray).size = 8 from rfl] at c5b2s)
    by_cases c6 : ((((⟨#[108, 105, 116, 109, 117, 115, 32]⟩ : ByteArray) ++ a0_0) ++ (⟨#[32, 118, 97, 108, 117, 101, 115, 32]⟩ : ByteArray)) ++ t221).size + 1 ≤ 9223372036854775807
    ·rw [if_pos c6] at H
     have c6b0 := eq_true c6
     have c6b1 : decide (((((⟨#[108, 105, 116, 109, 117, 115, 32]⟩ : ByteArray) ++ a0_0) ++ (⟨#[32, 118, 97, 108, 117, 101, 115, 32]⟩ : ByteArray)) ++ t221).size + 1 ≤ 9223372036854775807) = true := decide_eq_true c6
     try (have c6b1s := c6b1; simp only [ByteArray.size_append, show (⟨#[108, 105, 116, 109, 117, 115, 32]⟩ : ByteArray).size = 7 from rfl, show (⟨#[32, 118, 97, 108, 117, 101, 115, 32]⟩ : ByteArray).size = 8 from rfl] at c6b1s)
     try have c6b2 : (9223372036854775807 < ((((⟨#[108, 105, 116, 109, 117, 115, 32]⟩ : ByteArray) ++ a0_0) ++ (⟨#[32, 118, 97, 108, 117, 101, 115, 32]⟩ : ByteArray)) ++ t221).size + 1) = False := eq_false (Nat.not_lt.2 c6)
     try (have c6b2s := c6b2; simp only [ByteArray.size_append, show (⟨#[108, 105, 116, 109, 117, 115, 32]⟩ : ByteArray).size = 7 from rfl, show (⟨#[32, 118, 97, 108, 117, 101, 115, 32]⟩ : ByteArray).size = 8 from rfl] at c6b2s)
     have H' := Aside0.mk H
     clear H
     go_enter Tryd.func9, Tryd.ntmps9
     try go_wp2_with (first | ((with_reducible refine gate_dst (N := 1) rfl ?_); refine box_event ?hg (N := 1) ?hd (cs := #[.string a0_0, .int .i64 a0_1, .slice A0_2 l0_2.length c0_2, .slice A0_3 l0_3.length c0_3, .int .i64 a0_4, .int .i64 a0_5, .int .i64 a0_6, .string a0_7, .int .i64 a0_8, .slice A0_9 l0_9.length c0_9]) (t := 28) ?hr ?_; (case hd => rfl); (case hg => rfl); (case hr => first | (go_simp; done) | (go_simp; rfl)); intro gb220 hg w7 hbox hb; have n0_ := Aside0.mk (below_step (by repeat (first | (with_reducible first | exact HB.out | apply below_alloc | apply pw_below_drewN | apply below_drew1) | exact HB.out)) hb); have n1_ := Aside0.mk (hbox); have n2_ := Aside0.mk ((by rw [hg]; exact (below_size (by repeat (first | (with_reducible first | exact HB.out | apply below_alloc | apply pw_below_drewN | apply below_drew1) | exact HB.out))) : w.heap.size ≤ gb220)); have n3_ := Aside0.mk ((by rw [hg]; exact (below_size (by repeat (first | (with_reducible first | exact HB.out | apply below_alloc | apply pw_below_drewN | apply below_drew1) | exact HB.out))) : w.heap.size ≤ gb220)); clear HB; have HB := n0_; have BK220 := n1_; have GW220 := n2_; have GE220 := n3_; clear n0_ n1_ n2_ n3_; clear hb hbox hg))
     have n0_ := Aside0.mk (blk_drew BK220.out)
     have n1_ := Aside0.mk (below_drew1 HB.out)
     clear BK220
     clear HB
     have BK220 := n0_
     have HB := n1_
     clear n0_ n1_
     refine start_ (n := 10) (S := fun w' => w'.cell? ⟨gb220, 0, none⟩ = some (.string a0_0) ∧ w'.cell? ⟨gb220, 1, none⟩ = some (.int .i64 a0_1) ∧ w'.cell? ⟨gb220, 2, none⟩ = some (.slice A0_2 l0_2.length c0_2) ∧ w'.cell? ⟨gb220, 3, none⟩ = some (.slice A0_3 l0_3.length c0_3) ∧ w'.cell? ⟨gb220, 4, none⟩ = some (.int .i64 a0_4) ∧ w'.cell? ⟨gb220, 5, none⟩ = some (.int .i64 a0_5) ∧ w'.cell? ⟨gb220, 6, none⟩ = some (.int .i64 a0_6) ∧ w'.cell? ⟨gb220, 7, none⟩ = some (.string a0_7) ∧ w'.cell? ⟨gb220, 8, none⟩ = some (.int .i64 a0_8) ∧ w'.cell? ⟨gb220, 9, none⟩ = some (.slice A0_9 l0_9.length c0_9)) (ds := []) #[false, false, false, false, false, false, false, false, false, false] (by kernel_rfl) rfl rfl ⟨(blk_cell BK220.out 0).trans rfl, (blk_cell BK220.out 1).trans rfl, (blk_cell BK220.out 2).trans rfl, (blk_cell BK220.out 3).trans rfl, (blk_cell BK220.out 4).trans rfl, (blk_cell BK220.out 5).trans rfl, (blk_cell BK220.out 6).trans rfl, (blk_cell BK220.out 7).trans rfl, (blk_cell BK220.out 8).trans rfl, (blk_cell BK220.out 9).trans rfl⟩ (fun hHeld => ?_); refine with_tabW witheref6_Prog.tab1 witheref6_Prog.bits1 (fun HT_ HW_ => ?_)
     generalize w7.drew = w8 at BK220 HB hHeld ⊢
     refine pure_ (i := 0) (N := some 6) (v := ?_) (a' := ?_) #[true, false, false, false, false, false, false, false, false, false] rfl rfl (any_of HT_.out (by kernel_rfl)) (fun _ _ _ h => h) (Or.inl ⟨by rfl, ?_⟩) ?_ ?_
     rotate_left
     ·intro w'
      go_simp
      with_reducible rfl
     rotate_left
     ·simp only [Act.put, List.setIfInBounds_toArray, List.set_cons_zero, List.set_cons_succ, i64_w, i32_w]
      rfl
     refine pure_ (i := 4) (N := some 10) (v := ?_) (a' := ?_) #[true, false, false, false, true, false, false, false, false, false] rfl rfl (any_of HT_.out (by kernel_rfl)) (fun _ _ _ h => h) (Or.inl ⟨by rfl, ?_⟩) ?_ ?_
     rotate_left
     ·intro w'
      go_simp
      with_reducible rfl
     rotate_left
     ·simp only [Act.put, List.setIfInBounds_toArray, List.set_cons_zero, List.set_cons_succ, i64_w, i32_w]
      rfl
     refine take_ (i := 1) (N := some 7) (v := ?_) (a' := ?_) #[true, true, false, false, true, false, false, false, false, false] rfl rfl (take_ofW HT_.out HW_.out (by kernel_rfl)) (fun _ _ _ h => h) (Or.inl ⟨by rfl, ?_⟩) hHeld ?_ ?_
     rotate_left
     ·rintro w' ⟨s0, s1, s2, s3, s4, s5, s6, s7, s8, s9⟩
      go_simp
      with_reducible rfl
     rotate_left
     ·simp only [Act.put, List.setIfInBounds_toArray, List.set_cons_zero, List.set_cons_succ, i64_w, i32_w]
      rfl
     refine pure_ (i := 2) (N := some 8) (v := ?_) (a' := ?_) #[true, true, true, false, true, false, false, false, false, false] rfl rfl (any_of HT_.out (by kernel_rfl)) (fun _ _ _ h => h) (Or.inl ⟨by rfl, ?_⟩) ?_ ?_
     rotate_left
     ·intro w'
      go_simp
      with_reducible rfl
     rotate_left
     ·simp only [Act.put, List.setIfInBounds_toArray, List.set_cons_zero, List.set_cons_succ, i64_w, i32_w]
      rfl
     refine pure_ (i := 3) (N := some 9) (v := ?_) (a' := ?_) #[true, true, true, true, true, false, false, false, false, false] rfl rfl (any_of HT_.out (by kernel_rfl)) (fun _ _ _ h => h) (Or.inl ⟨by rfl, ?_⟩) ?_ ?_
     rotate_left
     ·intro w'
      go_simp
      with_reducible rfl
     rotate_left
     ·simp only [Act.put, List.setIfInBounds_toArray, List.set_cons_zero, List.set_cons_succ, i64_w, i32_w]
      rfl
     refine take_ (i := 5) (N := some 11) (v := ?_) (a' := ?_) #[true, true, true, true, true, true, false, false, false, false] rfl rfl (take_ofW HT_.out HW_.out (by kernel_rfl)) (fun _ _ _ h => h) (Or.inl ⟨by rfl, ?_⟩) hHeld ?_ ?_
     rotate_left
     ·rintro w' ⟨s0, s1, s2, s3, s4, s5, s6, s7, s8, s9⟩
      go_simp
      with_reducible rfl
     rotate_left
     ·simp only [Act.put, List.setIfInBounds_toArray, List.set_cons_zero, List.set_cons_succ, i64_w, i32_w]
      rfl
     refine one_ (i := 6) (N := some 12) #[true, true, true, true, true, true, true, false, false, false] rfl rfl (one_of HT_.out (by kernel_rfl)) (by decide) (fun K hK => ?_)
     refine goes_ Tryd.func21 (by kernel_rfl) rfl #[.int .i64 a0_1] (by rfl) rfl rfl (by (try simp only [List.map_toArray, List.map_cons, List.map_nil]); first | done | rfl | (simp only [List.length_drop, List.length_take]; rfl)) ?_
     with_reducible refine (witheref6_Digits.calls k a0_1 t221 _ A4.out).mono ?_
     rintro e w9 ⟨rfl, hb⟩
     refine ⟨_, rfl, ?_⟩
     have n0_ := Aside0.mk (blk_below (g := gb220) (o := .cells #[.string a0_0, .int .i64 a0_1, .slice A0_2 l0_2.length c0_2, .slice A0_3 l0_3.length c0_3, .int .i64 a0_4, .int .i64 a0_5, .int .i64 a0_6, .string a0_7, .int .i64 a0_8, .slice A0_9 l0_9.length c0_9] 28 (0, 0)) (by (with_reducible repeat (first | refine blk_drewN ?_ _ | refine blk_drew ?_ | refine blk_alloc ?_ _)); exact BK220.out) hb)
     have n1_ := Aside0.mk (below_step (by repeat (first | (with_reducible first | exact HB.out | apply below_alloc | apply pw_below_drewN | apply below_drew1 | refine below_set ?_ GE220.out) | exact HB.out)) hb)
     clear BK220
     clear HB
     have BK220 := n0_
     have HB := n1_
     clear n0_ n1_
     (try clear hb)
     (try clear hb2)
     (try clear hk)
     (try clear hi)
     refine hK.out _ _ ⟨(blk_cell BK220.out 0).trans rfl, (blk_cell BK220.out 1).trans rfl, (blk_cell BK220.out 2).trans rfl, (blk_cell BK220.out 3).trans rfl, (blk_cell BK220.out 4).trans rfl, (blk_cell BK220.out 5).trans rfl, (blk_cell BK220.out 6).trans rfl, (blk_cell BK220.out 7).trans rfl, (blk_cell BK220.out 8).trans rfl, (blk_cell BK220.out 9).trans rfl⟩ (fun hHeld => ?_)
     clear hK K
     refine norm_ (a' := ?_) ?_ ?_
     rotate_left
     ·show Act.put _ (some 12) _ = _
      simp only [Act.put, List.setIfInBounds_toArray, List.set_cons_zero, List.set_cons_succ, i64_w, i32_w]
      rfl
     refine pure_ (i := 7) (N := some 13) (v := ?_) (a' := ?_) #[true, true, true, true, true, true, true, true, false, false] rfl rfl (any_of HT_.out (by kernel_rfl)) (fun _ _ _ h => h) (Or.inl ⟨by rfl, ?_⟩) ?_ ?_
     rotate_left
     ·intro w'
      go_simp
      with_reducible rfl
     rotate_left
     ·simp only [Act.put, List.setIfInBounds_toArray, List.set_cons_zero, List.set_cons_succ, i64_w, i32_w]
      rfl
     refine pure_ (i := 8) (N := some 14) (v := ?_) (a' := ?_) #[true, true, true, true, true, true, true, true, true, false] rfl rfl (any_of HT_.out (by kernel_rfl)) (fun _ _ _ h => h) (Or.inl ⟨by rfl, ?_⟩) ?_ ?_
     rotate_left
     ·intro w'
      go_simp
      with_reducible rfl
     rotate_left
     ·simp only [Act.put, List.setIfInBounds_toArray, List.set_cons_zero, List.set_cons_succ, i64_w, i32_w]
      rfl
     refine pure_ (i := 9) (N := some 3) (v := ?_) (a' := ?_) #[true, true, true, true, true, true, true, true, true, true] rfl rfl (any_of HT_.out (by kernel_rfl)) (fun _ _ _ h => h) (Or.inl ⟨by rfl, ?_⟩) ?_ ?_
     rotate_left
     ·intro w'
      go_simp
      with_reducible rfl
     rotate_left
     ·simp only [Act.put, List.setIfInBounds_toArray, List.set_cons_zero, List.set_cons_succ, i64_w, i32_w]
      rfl
     refine done_ (done_of HT_.out (by kernel_rfl)) ?_
     try go_wp2
     try go_simp
     go_loopg [3, 4] k (fun kq v3 v4 w' => ∃ (x3_1 : ByteArray) (x4_1 : Int), v3 = .string x3_1 ∧ v4 = .int .i64 x4_1 ∧ Aside0 (witheref6_Prog.l0 kq x3_1 x4_1 a0_0 a0_1 l0_2 l0_3 a0_4 a0_5 a0_6 a0_7 a0_8 l0_9 = some r) ∧ Aside0 (kq ≤ k) ∧ Aside0 (w'.heap[gb220]? = some (.cells #[.string a0_0, .int .i64 a0_1, (.slice A0_2 l0_2.length c0_2), (.slice A0_3 l0_3.length c0_3), .int .i64 a0_4, .int .i64 a0_5, .int .i64 a0_6, .string a0_7, .int .i64 a0_8, (.slice A0_9 l0_9.length c0_9)] 28 (0, 0))) ∧ Aside0 (Below w.heap.size w w'))
     case atStart => exact ⟨(((((⟨#[108, 105, 116, 109, 117, 115, 32]⟩ : ByteArray) ++ a0_0) ++ (⟨#[32, 118, 97, 108, 117, 101, 115, 32]⟩ : ByteArray)) ++ t221) ++ (⟨#[10]⟩ : ByteArray)), (0), (by first | rfl | (simp; done) | (simp [*]; done)), (by first | rfl | (simp; done) | (simp [*]; done)), H', ⟨Nat.le_refl _⟩, ⟨by (with_reducible repeat (first | refine blk_drewN ?_ _ | refine blk_drew ?_ | refine blk_alloc ?_ _)); exact BK220.out⟩, ⟨by repeat (first | (with_reducible first | exact HB.out | apply below_alloc | apply pw_below_drewN | apply below_drew1 | refine below_set ?_ GE220.out) | exact HB.out)⟩⟩
     case round =>
      clear H'
      try clear c2
      try clear c2b0
      try clear c2b1
      try clear c2b2
      try clear p2
      try clear c3
      try clear c3b0
      try clear c3b1
      try clear c3b2
      try clear c5
      try clear c5b0
      try clear c5b1
      try clear c5b2
      try clear c6
      try clear c6b0
      try clear c6b1
      try clear c6b2
      try clear c9
      obtain ⟨x3_1, x4_1, rfl, rfl, HA, HK1, BK220, HB⟩ := hrel
      cases gk with
      | zero => exact absurd HA.out (by simp [witheref6_Prog.l0])
      | succ k1 =>
       have H := HA.out
       clear HA
       simp only [witheref6_Prog.l0] at H
       by_cases c10 : x4_1 < (l0_2.length : Int)
       ·rw [if_pos c10] at H
        have c10b0 : decide (x4_1 < (l0_2.length : Int)) = true := decide_eq_true c10
        clear c10
        by_cases c11 : x3_1.size + 5 ≤ 9223372036854775807
        ·rw [if_pos c11] at H
         have c11b0 := eq_true c11
         have c11b1 : decide (x3_1.size + 5 ≤ 9223372036854775807) = true := decide_eq_true c11
         try have c11b2 : (9223372036854775807 < x3_1.size + 5) = False := eq_false (Nat.not_lt.2 c11)
         by_cases c12 : 0 ≤ x4_1
         ·rw [if_pos c12] at H
          have c12b0 : decide (0 ≤ x4_1) = true := decide_eq_true c12
          clear c12
          by_cases c13 : (x3_1 ++ (⟨#[105, 110, 105, 116, 32]⟩ : ByteArray)).size + ((rd_T42 l0_2 x4_1).f0).size ≤ 9223372036854775807
          ·rw [if_pos c13] at H
           have c13b0 := eq_true c13
           have c13b1 : decide ((x3_1 ++ (⟨#[105, 110, 105, 116, 32]⟩ : ByteArray)).size + ((rd_T42 l0_2 x4_1).f0).size ≤ 9223372036854775807) = true := decide_eq_true c13
           try (have c13b1s := c13b1; simp only [ByteArray.size_append, show (⟨#[105, 110, 105, 116, 32]⟩ : ByteArray).size = 5 from rfl] at c13b1s)
           try have c13b2 : (9223372036854775807 < (x3_1 ++ (⟨#[105, 110, 105, 116, 32]⟩ : ByteArray)).size + ((rd_T42 l0_2 x4_1).f0).size) = False := eq_false (Nat.not_lt.2 c13)
           try (have c13b2s := c13b2; simp only [ByteArray.size_append, show (⟨#[105, 110, 105, 116, 32]⟩ : ByteArray).size = 5 from rfl] at c13b2s)
           by_cases c14 : ((x3_1 ++ (⟨#[105, 110, 105, 116, 32]⟩ : ByteArray)) ++ ((rd_T42 l0_2 x4_1).f0)).size + 1 ≤ 9223372036854775807
           ·rw [if_pos c14] at H
            have c14b0 := eq_true c14
            have c14b1 : decide (((x3_1 ++ (⟨#[105, 110, 105, 116, 32]⟩ : ByteArray)) ++ ((rd_T42 l0_2 x4_1).f0)).size + 1 ≤ 9223372036854775807) = true := decide_eq_true c14
            try (have c14b1s := c14b1; simp only [ByteArray.size_append, show (⟨#[105, 110, 105, 116, 32]⟩ : ByteArray).size = 5 from rfl] at c14b1s)
            try have c14b2 : (9223372036854775807 < ((x3_1 ++ (⟨#[105, 110, 105, 116, 32]⟩ : ByteArray)) ++ ((rd_T42 l0_2 x4_1).f0)).size + 1) = False := eq_false (Nat.not_lt.2 c14)
            try (have c14b2s := c14b2; simp only [ByteArray.size_append, show (⟨#[105, 110, 105, 116, 32]⟩ : ByteArray).size = 5 from rfl] at c14b2s)
            replace H := Option.bind_eq_some_iff.mp H
            obtain ⟨t224, A150, H⟩ := H
            replace H : (if (((x3_1 ++ (⟨#[105, 110, 105, 116, 32]⟩ : ByteArray)) ++ ((rd_T42 l0_2 x4_1).f0)) ++ (⟨#[32]⟩ : ByteArray)).size + t224.size ≤ 9223372036854775807 then (if ((((x3_1 ++ (⟨#[105, 110, 105, 116, 32]⟩ : ByteArray)) ++ ((rd_T42 l0_2 x4_1).f0)) ++ (⟨#[32]⟩ : ByteArray)) ++ t224).size + 1 ≤ 9223372036854775807 then (witheref6_Prog.l0 k1 (((((x3_1 ++ (⟨#[105, 110, 105, 116, 32]⟩ : ByteArray)) ++ ((rd_T42 l0_2 x4_1).f0)) ++ (⟨#[32]⟩ : ByteArray)) ++ t224) ++ (⟨#[10]⟩ : ByteArray)) (wrap64 (x4_1 + 1)) a0_0 a0_1 l0_2 l0_3 a0_4 a0_5 a0_6 a0_7 a0_8 l0_9) else (none)) else (none)) = some r := H
            have A15 := Aside0.mk A150
            clear A150
            by_cases c16 : (((x3_1 ++ (⟨#[105, 110, 105, 116, 32]⟩ : ByteArray)) ++ ((rd_T42 l0_2 x4_1).f0)) ++ (⟨#[32]⟩ : ByteArray)).size + t224.size ≤ 9223372036854775807
            ·rw [if_pos c16] at H
             have c16b0 := eq_true c16
             have c16b1 : decide ((((x3_1 ++ (⟨#[105, 110, 105, 116, 32]⟩ : ByteArray)) ++ ((rd_T42 l0_2 x4_1).f0)) ++ (⟨#[32]⟩ : ByteArray)).size + t224.size ≤ 9223372036854775807) = true := decide_eq_true c16
             try (have c16b1s := c16b1; simp only [ByteArray.size_append, show (⟨#[105, 110, 105, 116, 32]⟩ : ByteArray).size = 5 from rfl, show (⟨#[32]⟩ : ByteArray).size = 1 from rfl] at c16b1s)
             try have c16b2 : (9223372036854775807 < (((x3_1 ++ (⟨#[105, 110, 105, 116, 32]⟩ : ByteArray)) ++ ((rd_T42 l0_2 x4_1).f0)) ++ (⟨#[32]⟩ : ByteArray)).size + t224.size) = False := eq_false (Nat.not_lt.2 c16)
             try (have c16b2s := c16b2; simp only [ByteArray.size_append, show (⟨#[105, 110, 105, 116, 32]⟩ : ByteArray).size = 5 from rfl, show (⟨#[32]⟩ : ByteArray).size = 1 from rfl] at c16b2s)
             by_cases c17 : ((((x3_1 ++ (⟨#[105, 110, 105, 116, 32]⟩ : ByteArray)) ++ ((rd_T42 l0_2 x4_1).f0)) ++ (⟨#[32]⟩ : ByteArray)) ++ t224).size + 1 ≤ 9223372036854775807
             ·rw [if_pos c17] at H
              have c17b0 := eq_true c17
              have c17b1 : decide (((((x3_1 ++ (⟨#[105, 110, 105, 116, 32]⟩ : ByteArray)) ++ ((rd_T42 l0_2 x4_1).f0)) ++ (⟨#[32]⟩ : ByteArray)) ++ t224).size + 1 ≤ 9223372036854775807) = true := decide_eq_true c17
              try (have c17b1s := c17b1; simp only [ByteArray.size_append, show (⟨#[105, 110, 105, 116, 32]⟩ : ByteArray).size = 5 from rfl, show (⟨#[32]⟩ : ByteArray).size = 1 from rfl] at c17b1s)
              try have c17b2 : (9223372036854775807 < ((((x3_1 ++ (⟨#[105, 110, 105, 116, 32]⟩ : ByteArray)) ++ ((rd_T42 l0_2 x4_1).f0)) ++ (⟨#[32]⟩ : ByteArray)) ++ t224).size + 1) = False := eq_false (Nat.not_lt.2 c17)
              try (have c17b2s := c17b2; simp only [ByteArray.size_append, show (⟨#[105, 110, 105, 116, 32]⟩ : ByteArray).size = 5 from rfl, show (⟨#[32]⟩ : ByteArray).size = 1 from rfl] at c17b2s)
              have H' := Aside0.mk H
              clear H
              have hcz18_0 : wr.cell? ⟨gb220, 0, none⟩ = some (.string a0_0) := (blk_cell BK220.out 0).trans rfl
              have hcz18_1 : wr.cell? ⟨gb220, 1, none⟩ = some (.int .i64 a0_1) := (blk_cell BK220.out 1).trans rfl
              have hcz18_2 : wr.cell? ⟨gb220, 2, none⟩ = some (.slice A0_2 l0_2.length c0_2) := (blk_cell BK220.out 2).trans rfl
              have hcz18_3 : wr.cell? ⟨gb220, 3, none⟩ = some (.slice A0_3 l0_3.length c0_3) := (blk_cell BK220.out 3).trans rfl
              have hcz18_4 : wr.cell? ⟨gb220, 4, none⟩ = some (.int .i64 a0_4) := (blk_cell BK220.out 4).trans rfl
              have hcz18_5 : wr.cell? ⟨gb220, 5, none⟩ = some (.int .i64 a0_5) := (blk_cell BK220.out 5).trans rfl
              have hcz18_6 : wr.cell? ⟨gb220, 6, none⟩ = some (.int .i64 a0_6) := (blk_cell BK220.out 6).trans rfl
              have hcz18_7 : wr.cell? ⟨gb220, 7, none⟩ = some (.string a0_7) := (blk_cell BK220.out 7).trans rfl
              have hcz18_8 : wr.cell? ⟨gb220, 8, none⟩ = some (.int .i64 a0_8) := (blk_cell BK220.out 8).trans rfl
              have hcz18_9 : wr.cell? ⟨gb220, 9, none⟩ = some (.slice A0_9 l0_9.length c0_9) := (blk_cell BK220.out 9).trans rfl
              have hfz18_0 := blk_frozen BK220.out 0
              have hfz18_1 := blk_frozen BK220.out 1
              have hfz18_2 := blk_frozen BK220.out 2
              have hfz18_3 := blk_frozen BK220.out 3
              have hfz18_4 := blk_frozen BK220.out 4
              have hfz18_5 := blk_frozen BK220.out 5
              have hfz18_6 := blk_frozen BK220.out 6
              have hfz18_7 := blk_frozen BK220.out 7
              have hfz18_8 := blk_frozen BK220.out 8
              have hfz18_9 := blk_frozen BK220.out 9
              try go_wp2
              have n0_ := Aside0.mk (blk_drew BK220.out)
              have n1_ := Aside0.mk (below_drew1 HB.out)
              clear BK220
              clear HB
              have BK220 := n0_
              have HB := n1_
              clear n0_ n1_
              have p222 : 0 ≤ (x4_1 : Int) := of_decide_eq_true (by first | (with_reducible assumption) | assumption)
              have q222 : x4_1 < (l0_2.length : Int) := of_decide_eq_true (by first | (with_reducible assumption) | assumption)
              obtain ⟨ad222, e222, hx222_0, hx222_1⟩ := at_T42 HR0_2.out x4_1 p222 q222
              have hw222_1 := hx222_1
              have hw222_0 := hx222_0
              cases e222
              replace hx222_0 := (HB.out.cell (World.block_lt_of_cell? w _ hx222_0)).trans hx222_0
              replace hx222_1 := (HB.out.cell (World.block_lt_of_cell? w _ hx222_1)).trans hx222_1
              replace p222 := eq_true p222
              replace q222 := eq_true q222
              have p223 : 0 ≤ (x4_1 : Int) := of_decide_eq_true (by first | (with_reducible assumption) | assumption)
              have q223 : x4_1 < (l0_2.length : Int) := of_decide_eq_true (by first | (with_reducible assumption) | assumption)
              obtain ⟨ad223, e223, hx223_0, hx223_1⟩ := at_T42 HR0_2.out x4_1 p223 q223
              have hw223_1 := hx223_1
              have hw223_0 := hx223_0
              obtain rfl : ad222 = ad223 := (by injection e223)
              replace hx223_0 := (HB.out.cell (World.block_lt_of_cell? w _ hx223_0)).trans hx223_0
              replace hx223_1 := (HB.out.cell (World.block_lt_of_cell? w _ hx223_1)).trans hx223_1
              replace p223 := eq_true p223
              replace q223 := eq_true q223
              refine start_ (n := 20) (S := fun w' => w'.cell? ⟨gb220, 0, none⟩ = some (.string a0_0) ∧ w'.cell? ⟨gb220, 1, none⟩ = some (.int .i64 a0_1) ∧ w'.cell? ⟨gb220, 2, none⟩ = some (.slice (some ad222) l0_2.length c0_2) ∧ w'.cell? ⟨gb220, 3, none⟩ = some (.slice A0_3 l0_3.length c0_3) ∧ w'.cell? ⟨gb220, 4, none⟩ = some (.int .i64 a0_4) ∧ w'.cell? ⟨gb220, 5, none⟩ = some (.int .i64 a0_5) ∧ w'.cell? ⟨gb220, 6, none⟩ = some (.int .i64 a0_6) ∧ w'.cell? ⟨gb220, 7, none⟩ = some (.string a0_7) ∧ w'.cell? ⟨gb220, 8, none⟩ = some (.int .i64 a0_8) ∧ w'.cell? ⟨gb220, 9, none⟩ = some (.slice A0_9 l0_9.length c0_9) ∧ w'.cell? (ad222.add ((x4_1).toNat * 2)) = some (.string ((rd_T42 l0_2 x4_1).f0)) ∧ w'.cell? ⟨(ad222.add ((x4_1).toNat * 2)).block, (ad222.add ((x4_1).toNat * 2)).off + 1, none⟩ = some (.int .i64 ((rd_T42 l0_2 x4_1).f1)) ∧ w'.cell? (ad222.add ((x4_1).toNat * 2)) = some (.string ((rd_T42 l0_2 x4_1).f0)) ∧ w'.cell? ⟨(ad222.add ((x4_1).toNat * 2)).block, (ad222.add ((x4_1).toNat * 2)).off + 1, none⟩ = some (.int .i64 ((rd_T42 l0_2 x4_1).f1))) (ds := []) #[false, false, false, false, false, false, false, false, false, false, false, false, false, false, false, false, false, false, false, false] (by kernel_rfl) rfl rfl ⟨(blk_cell BK220.out 0).trans rfl, (blk_cell BK220.out 1).trans rfl, (blk_cell BK220.out 2).trans rfl, (blk_cell BK220.out 3).trans rfl, (blk_cell BK220.out 4).trans rfl, (blk_cell BK220.out 5).trans rfl, (blk_cell BK220.out 6).trans rfl, (blk_cell BK220.out 7).trans rfl, (blk_cell BK220.out 8).trans rfl, (blk_cell BK220.out 9).trans rfl, ((HB.out.cell (World.block_lt_of_cell? w _ hw222_0)).trans hw222_0), ((HB.out.cell (World.block_lt_of_cell? w _ hw222_1)).trans hw222_1), ((HB.out.cell (World.block_lt_of_cell? w _ hw223_0)).trans hw223_0), ((HB.out.cell (World.block_lt_of_cell? w _ hw223_1)).trans hw223_1)⟩ (fun hHeld => ?_); refine with_tabW witheref6_Prog.tab5 witheref6_Prog.bits5 (fun HT_ HW_ => ?_)
              generalize wr.drew = w19 at BK220 HB hx222_0 hx222_1 hx223_0 hx223_1 hHeld ⊢
              refine pure_ (i := 0) (N := some 22) (v := ?_) (a' := ?_) #[true, false, false, false, false, false, false, false, false, false, false, false, false, false, false, false, false, false, false, false] rfl rfl (any_of HT_.out (by kernel_rfl)) (fun _ _ _ h => h) (Or.inl ⟨by rfl, ?_⟩) ?_ ?_
              rotate_left
              ·intro w'
               go_simp
               with_reducible rfl
              rotate_left
              ·simp only [Act.put, List.setIfInBounds_toArray, List.set_cons_zero, List.set_cons_succ, i64_w, i32_w]
               rfl
              refine pure_ (i := 1) (N := some 23) (v := ?_) (a' := ?_) #[true, true, false, false, false, false, false, false, false, false, false, false, false, false, false, false, false, false, false, false] rfl rfl (any_of HT_.out (by kernel_rfl)) (fun _ _ _ h => h) (Or.inl ⟨by rfl, ?_⟩) ?_ ?_
              rotate_left
              ·intro w'
               go_simp
               with_reducible rfl
              rotate_left
              ·simp only [Act.put, List.setIfInBounds_toArray, List.set_cons_zero, List.set_cons_succ, i64_w, i32_w]
               rfl
              refine pure_ (i := 2) (N := some 24) (v := ?_) (a' := ?_) #[true, true, true, false, false, false, false, false, false, false, false, false, false, false, false, false, false, false, false, false] rfl rfl (any_of HT_.out (by kernel_rfl)) (fun _ _ _ h => h) (Or.inl ⟨by rfl, ?_⟩) ?_ ?_
              rotate_left
              ·intro w'
               go_simp
               with_reducible rfl
              rotate_left
              ·simp only [Act.put, List.setIfInBounds_toArray, List.set_cons_zero, List.set_cons_succ, i64_w, i32_w]
               rfl
              refine pure_ (i := 4) (N := some 26) (v := ?_) (a' := ?_) #[true, true, true, false, true, false, false, false, false, false, false, false, false, false, false, false, false, false, false, false] rfl rfl (any_of HT_.out (by kernel_rfl)) (fun _ _ _ h => h) (Or.inl ⟨by rfl, ?_⟩) ?_ ?_
              rotate_left
              ·intro w'
               go_simp
               with_reducible rfl
              rotate_left
              ·simp only [Act.put, List.setIfInBounds_toArray, List.set_cons_zero, List.set_cons_succ, i64_w, i32_w]
               rfl
              refine pure_ (i := 10) (N := some 32) (v := ?_) (a' := ?_) #[true, true, true, false, true, false, false, false, false, false, true, false, false, false, false, false, false, false, false, false] rfl rfl (any_of HT_.out (by kernel_rfl)) (fun _ _ _ h => h) (Or.inl ⟨by rfl, ?_⟩) ?_ ?_
              rotate_left
              ·intro w'
               go_simp
               with_reducible rfl
              rotate_left
              ·simp only [Act.put, List.setIfInBounds_toArray, List.set_cons_zero, List.set_cons_succ, i64_w, i32_w]
               rfl
              refine pure_ (i := 12) (N := some 34) (v := ?_) (a' := ?_) #[true, true, true, false, true, false, false, false, false, false, true, false, true, false, false, false, false, false, false, false] rfl rfl (any_of HT_.out (by kernel_rfl)) (fun _ _ _ h => h) (Or.inl ⟨by rfl, ?_⟩) ?_ ?_
              rotate_left
              ·intro w'
               go_simp
               with_reducible rfl
              rotate_left
              ·simp only [Act.put, List.setIfInBounds_toArray, List.set_cons_zero, List.set_cons_succ, i64_w, i32_w]
               rfl
              refine take_ (i := 3) (N := some 25) (v := ?_) (a' := ?_) #[true, true, true, true, true, false, false, false, false, false, true, false, true, false, false, false, false, false, false, false] rfl rfl (take_ofW HT_.out HW_.out (by kernel_rfl)) (fun _ _ _ h => h) (Or.inl ⟨by rfl, ?_⟩) hHeld ?_ ?_
              rotate_left
              ·rintro w' ⟨s0, s1, s2, s3, s4, s5, s6, s7, s8, s9, s10, s11, s12, s13⟩
               go_simp
               with_reducible rfl
              rotate_left
              ·simp only [Act.put, List.setIfInBounds_toArray, List.set_cons_zero, List.set_cons_succ, i64_w, i32_w]
               rfl
              refine pure_ (i := 5) (N := some 27) (v := ?_) (a' := ?_) #[true, true, true, true, true, true, false, false, false, false, true, false, true, false, false, false, false, false, false, false] rfl rfl (any_of HT_.out (by kernel_rfl)) (fun _ _ _ h => h) (Or.inl ⟨by rfl, ?_⟩) ?_ ?_
              rotate_left
              ·intro w'
               go_simp
               with_reducible rfl
              rotate_left
              ·simp only [Act.put, List.setIfInBounds_toArray, List.set_cons_zero, List.set_cons_succ, i64_w, i32_w]
               rfl
              refine pure_ (i := 6) (N := some 28) (v := ?_) (a' := ?_) #[true, true, true, true, true, true, true, false, false, false, true, false, true, false, false, false, false, false, false, false] rfl rfl (any_of HT_.out (by kernel_rfl)) (fun _ _ _ h => h) (Or.inl ⟨by rfl, ?_⟩) ?_ ?_
              rotate_left
              ·intro w'
               go_simp
               with_reducible rfl
              rotate_left
              ·simp only [Act.put, List.setIfInBounds_toArray, List.set_cons_zero, List.set_cons_succ, i64_w, i32_w]
               rfl
              refine take_ (i := 7) (N := some 29) (v := ?_) (a' := ?_) #[true, true, true, true, true, true, true, true, false, false, true, false, true, false, false, false, false, false, false, false] rfl rfl (take_ofW HT_.out HW_.out (by kernel_rfl)) (fun _ _ _ h => h) (Or.inl ⟨by rfl, ?_⟩) hHeld ?_ ?_
              rotate_left
              ·rintro w' ⟨s0, s1, s2, s3, s4, s5, s6, s7, s8, s9, s10, s11, s12, s13⟩
               go_simp
               with_reducible rfl
              rotate_left
              ·simp only [Act.put, List.setIfInBounds_toArray, List.set_cons_zero, List.set_cons_succ, i64_w, i32_w]
               rfl
              refine pure_ (i := 8) (N := some 30) (v := ?_) (a' := ?_) #[true, true, true, true, true, true, true, true, true, false, true, false, true, false, false, false, false, false, false, false] rfl rfl (any_of HT_.out (by kernel_rfl)) (fun _ _ _ h => h) (Or.inl ⟨by rfl, ?_⟩) ?_ ?_
              rotate_left
              ·intro w'
               go_simp
               with_reducible rfl
              rotate_left
              ·simp only [Act.put, List.setIfInBounds_toArray, List.set_cons_zero, List.set_cons_succ, i64_w, i32_w]
               rfl
              refine pure_ (i := 9) (N := some 31) (v := ?_) (a' := ?_) #[true, true, true, true, true, true, true, true, true, true, true, false, true, false, false, false, false, false, false, false] rfl rfl (any_of HT_.out (by kernel_rfl)) (fun _ _ _ h => h) (Or.inl ⟨by rfl, ?_⟩) ?_ ?_
              rotate_left
              ·intro w'
               go_simp
               with_reducible rfl
              rotate_left
              ·simp only [Act.put, List.setIfInBounds_toArray, List.set_cons_zero, List.set_cons_succ, i64_w, i32_w]
               rfl
              refine take_ (i := 11) (N := some 33) (v := ?_) (a' := ?_) #[true, true, true, true, true, true, true, true, true, true, true, true, true, false, false, false, false, false, false, false] rfl rfl (take_ofW HT_.out HW_.out (by kernel_rfl)) (fun _ _ _ h => h) (Or.inl ⟨by rfl, ?_⟩) hHeld ?_ ?_
              rotate_left
              ·rintro w' ⟨s0, s1, s2, s3, s4, s5, s6, s7, s8, s9, s10, s11, s12, s13⟩
               go_simp
               with_reducible rfl
              rotate_left
              ·simp only [Act.put, List.setIfInBounds_toArray, List.set_cons_zero, List.set_cons_succ, i64_w, i32_w]
               rfl
              refine pure_ (i := 13) (N := some 35) (v := ?_) (a' := ?_) #[true, true, true, true, true, true, true, true, true, true, true, true, true, true, false, false, false, false, false, false] rfl rfl (any_of HT_.out (by kernel_rfl)) (fun _ _ _ h => h) (Or.inl ⟨by rfl, ?_⟩) ?_ ?_
              rotate_left
              ·intro w'
               go_simp
               with_reducible rfl
              rotate_left
              ·simp only [Act.put, List.setIfInBounds_toArray, List.set_cons_zero, List.set_cons_succ, i64_w, i32_w]
               rfl
              refine pure_ (i := 14) (N := some 36) (v := ?_) (a' := ?_) #[true, true, true, true, true, true, true, true, true, true, true, true, true, true, true, false, false, false, false, false] rfl rfl (any_of HT_.out (by kernel_rfl)) (fun _ _ _ h => h) (Or.inl ⟨by rfl, ?_⟩) ?_ ?_
              rotate_left
              ·intro w'
               go_simp
               with_reducible rfl
              rotate_left
              ·simp only [Act.put, List.setIfInBounds_toArray, List.set_cons_zero, List.set_cons_succ, i64_w, i32_w]
               rfl
              refine take_ (i := 15) (N := some 37) (v := ?_) (a' := ?_) #[true, true, true, true, true, true, true, true, true, true, true, true, true, true, true, true, false, false, false, false] rfl rfl (take_ofW HT_.out HW_.out (by kernel_rfl)) (fun _ _ _ h => h) (Or.inl ⟨by rfl, ?_⟩) hHeld ?_ ?_
              rotate_left
              ·rintro w' ⟨s0, s1, s2, s3, s4, s5, s6, s7, s8, s9, s10, s11, s12, s13⟩
               go_simp
               with_reducible rfl
              rotate_left
              ·simp only [Act.put, List.setIfInBounds_toArray, List.set_cons_zero, List.set_cons_succ, i64_w, i32_w]
               rfl
              refine one_ (i := 16) (N := some 38) #[true, true, true, true, true, true, true, true, true, true, true, true, true, true, true, true, true, false, false, false] rfl rfl (one_of HT_.out (by kernel_rfl)) (by decide) (fun K hK => ?_)
              refine goes_ Tryd.func21 (by kernel_rfl) rfl #[.int .i64 ((rd_T42 l0_2 x4_1).f1)] (by rfl) rfl rfl (by (try simp only [List.map_toArray, List.map_cons, List.map_nil]); first | done | rfl | (simp only [List.length_drop, List.length_take]; rfl)) ?_
              with_reducible refine (witheref6_Digits.calls k1 ((rd_T42 l0_2 x4_1).f1) t224 _ A15.out).mono ?_
              rintro e w20 ⟨rfl, hb⟩
              refine ⟨_, rfl, ?_⟩
              have n0_ := Aside0.mk (blk_below (g := gb220) (o := .cells #[.string a0_0, .int .i64 a0_1, .slice (some ad222) l0_2.length c0_2, .slice A0_3 l0_3.length c0_3, .int .i64 a0_4, .int .i64 a0_5, .int .i64 a0_6, .string a0_7, .int .i64 a0_8, .slice A0_9 l0_9.length c0_9] 28 (0, 0)) (by (with_reducible repeat (first | refine blk_drewN ?_ _ | refine blk_drew ?_ | refine blk_alloc ?_ _)); exact BK220.out) hb)
              have n1_ := Aside0.mk (below_step (by repeat (first | (with_reducible first | exact HB.out | apply below_alloc | apply pw_below_drewN | apply below_drew1 | refine below_set ?_ GE220.out) | exact HB.out)) hb)
              clear BK220
              clear HB
              have BK220 := n0_
              have HB := n1_
              clear n0_ n1_
              (try clear hb)
              (try clear hb2)
              (try clear hk)
              (try clear hi)
              refine hK.out _ _ ⟨(blk_cell BK220.out 0).trans rfl, (blk_cell BK220.out 1).trans rfl, (blk_cell BK220.out 2).trans rfl, (blk_cell BK220.out 3).trans rfl, (blk_cell BK220.out 4).trans rfl, (blk_cell BK220.out 5).trans rfl, (blk_cell BK220.out 6).trans rfl, (blk_cell BK220.out 7).trans rfl, (blk_cell BK220.out 8).trans rfl, (blk_cell BK220.out 9).trans rfl, ((HB.out.cell (World.block_lt_of_cell? w _ hw222_0)).trans hw222_0), ((HB.out.cell (World.block_lt_of_cell? w _ hw222_1)).trans hw222_1), ((HB.out.cell (World.block_lt_of_cell? w _ hw223_0)).trans hw223_0), ((HB.out.cell (World.block_lt_of_cell? w _ hw223_1)).trans hw223_1)⟩ (fun hHeld => ?_)
              clear hK K
              refine norm_ (a' := ?_) ?_ ?_
              rotate_left
              ·show Act.put _ (some 38) _ = _
               simp only [Act.put, List.setIfInBounds_toArray, List.set_cons_zero, List.set_cons_succ, i64_w, i32_w]
               rfl
              refine pure_ (i := 17) (N := some 39) (v := ?_) (a' := ?_) #[true, true, true, true, true, true, true, true, true, true, true, true, true, true, true, true, true, true, false, false] rfl rfl (any_of HT_.out (by kernel_rfl)) (fun _ _ _ h => h) (Or.inl ⟨by rfl, ?_⟩) ?_ ?_
              rotate_left
              ·intro w'
               go_simp
               with_reducible rfl
              rotate_left
              ·simp only [Act.put, List.setIfInBounds_toArray, List.set_cons_zero, List.set_cons_succ, i64_w, i32_w]
               rfl
              refine pure_ (i := 18) (N := some 40) (v := ?_) (a' := ?_) #[true, true, true, true, true, true, true, true, true, true, true, true, true, true, true, true, true, true, true, false] rfl rfl (any_of HT_.out (by kernel_rfl)) (fun _ _ _ h => h) (Or.inl ⟨by rfl, ?_⟩) ?_ ?_
              rotate_left
              ·intro w'
               go_simp
               with_reducible rfl
              rotate_left
              ·simp only [Act.put, List.setIfInBounds_toArray, List.set_cons_zero, List.set_cons_succ, i64_w, i32_w]
               rfl
              refine pure_ (i := 19) (N := some 3) (v := ?_) (a' := ?_) #[true, true, true, true, true, true, true, true, true, true, true, true, true, true, true, true, true, true, true, true] rfl rfl (any_of HT_.out (by kernel_rfl)) (fun _ _ _ h => h) (Or.inl ⟨by rfl, ?_⟩) ?_ ?_
              rotate_left
              ·intro w'
               go_simp
               with_reducible rfl
              rotate_left
              ·simp only [Act.put, List.setIfInBounds_toArray, List.set_cons_zero, List.set_cons_succ, i64_w, i32_w]
               rfl
              refine done_ (done_of HT_.out (by kernel_rfl)) ?_
              try go_wp2
              go_roundg k1
              case measure => have := HK1.out; omega
              case rel => exact ⟨(((((x3_1 ++ (⟨#[105, 110, 105, 116, 32]⟩ : ByteArray)) ++ ((rd_T42 l0_2 x4_1).f0)) ++ (⟨#[32]⟩ : ByteArray)) ++ t224) ++ (⟨#[10]⟩ : ByteArray)), (wrap64 (x4_1 + 1)), (by first | rfl | (simp; done) | (simp [*]; done)), (by first | rfl | (simp; done) | (simp [*]; done)), H', ⟨by have := HK1.out; omega⟩, ⟨by (with_reducible repeat (first | refine blk_drewN ?_ _ | refine blk_drew ?_ | refine blk_alloc ?_ _)); exact BK220.out⟩, ⟨by repeat (first | (with_reducible first | exact HB.out | apply below_alloc | apply pw_below_drewN | apply below_drew1 | refine below_set ?_ GE220.out) | exact HB.out)⟩⟩
             ·rw [if_neg c17] at H
              exact absurd H (by simp)
            ·rw [if_neg c16] at H
             exact absurd H (by simp)
           ·rw [if_neg c14] at H
            exact absurd H (by simp)
          ·rw [if_neg c13] at H
           exact absurd H (by simp)
         ·rw [if_neg c12] at H
          exact absurd H (by simp)
        ·rw [if_neg c11] at H
         exact absurd H (by simp)
       ·rw [if_neg c10] at H
        have c10b0 : decide (x4_1 < (l0_2.length : Int)) = false := decide_eq_false c10
        clear c10
        have H' := Aside0.mk H
        clear H
        have hcz21_0 : wr.cell? ⟨gb220, 0, none⟩ = some (.string a0_0) := (blk_cell BK220.out 0).trans rfl
        have hcz21_1 : wr.cell? ⟨gb220, 1, none⟩ = some (.int .i64 a0_1) := (blk_cell BK220.out 1).trans rfl
        have hcz21_2 : wr.cell? ⟨gb220, 2, none⟩ = some (.slice A0_2 l0_2.length c0_2) := (blk_cell BK220.out 2).trans rfl
        have hcz21_3 : wr.cell? ⟨gb220, 3, none⟩ = some (.slice A0_3 l0_3.length c0_3) := (blk_cell BK220.out 3).trans rfl
        have hcz21_4 : wr.cell? ⟨gb220, 4, none⟩ = some (.int .i64 a0_4) := (blk_cell BK220.out 4).trans rfl
        have hcz21_5 : wr.cell? ⟨gb220, 5, none⟩ = some (.int .i64 a0_5) := (blk_cell BK220.out 5).trans rfl
        have hcz21_6 : wr.cell? ⟨gb220, 6, none⟩ = some (.int .i64 a0_6) := (blk_cell BK220.out 6).trans rfl
        have hcz21_7 : wr.cell? ⟨gb220, 7, none⟩ = some (.string a0_7) := (blk_cell BK220.out 7).trans rfl
        have hcz21_8 : wr.cell? ⟨gb220, 8, none⟩ = some (.int .i64 a0_8) := (blk_cell BK220.out 8).trans rfl
        have hcz21_9 : wr.cell? ⟨gb220, 9, none⟩ = some (.slice A0_9 l0_9.length c0_9) := (blk_cell BK220.out 9).trans rfl
        have hfz21_0 := blk_frozen BK220.out 0
        have hfz21_1 := blk_frozen BK220.out 1
        have hfz21_2 := blk_frozen BK220.out 2
        have hfz21_3 := blk_frozen BK220.out 3
        have hfz21_4 := blk_frozen BK220.out 4
        have hfz21_5 := blk_frozen BK220.out 5
        have hfz21_6 := blk_frozen BK220.out 6
        have hfz21_7 := blk_frozen BK220.out 7
        have hfz21_8 := blk_frozen BK220.out 8
        have hfz21_9 := blk_frozen BK220.out 9
        go_wp2
        try go_simp
        go_loopg [3, 5] k1 (fun kq v3 v5 w' => ∃ (x3_2 : ByteArray) (x5_2 : Int), v3 = .string x3_2 ∧ v5 = .int .i64 x5_2 ∧ Aside0 (witheref6_Prog.l1 kq x3_2 x5_2 a0_0 a0_1 l0_2 l0_3 a0_4 a0_5 a0_6 a0_7 a0_8 l0_9 = some r) ∧ Aside0 (kq ≤ k1) ∧ Aside0 (w'.heap[gb220]? = some (.cells #[.string a0_0, .int .i64 a0_1, (.slice A0_2 l0_2.length c0_2), (.slice A0_3 l0_3.length c0_3), .int .i64 a0_4, .int .i64 a0_5, .int .i64 a0_6, .string a0_7, .int .i64 a0_8, (.slice A0_9 l0_9.length c0_9)] 28 (0, 0))) ∧ Aside0 (Below w.heap.size w w'))
        case atStart => exact ⟨(x3_1), (0), (by first | rfl | (simp; done) | (simp [*]; done)), (by first | rfl | (simp; done) | (simp [*]; done)), H', ⟨Nat.le_refl _⟩, ⟨by (with_reducible repeat (first | refine blk_drewN ?_ _ | refine blk_drew ?_ | refine blk_alloc ?_ _)); exact BK220.out⟩, ⟨by repeat (first | (with_reducible first | exact HB.out | apply below_alloc | apply pw_below_drewN | apply below_drew1 | refine below_set ?_ GE220.out) | exact HB.out)⟩⟩
        case round =>
         clear H'
         try clear c1
         try clear c2
         try clear c2b0
         try clear c2b1
         try clear c2b2
         try clear p2
         try clear q2
         try clear hx2
         try clear c3
         try clear c3b0
         try clear c3b1
         try clear c3b2
         try clear c5
         try clear c5b0
         try clear c5b1
         try clear c5b2
         try clear c6
         try clear c6b0
         try clear c6b1
         try clear c6b2
         try clear p6
         try clear c9
         try clear c10
         try clear c10b0
         try clear c11
         try clear c11b0
         try clear c11b1
         try clear c11b2
         try clear c12
         try clear c12b0
         try clear c13
         try clear c13b0
         try clear c13b1
         try clear c13b2
         try clear c14
         try clear c14b0
         try clear c14b1
         try clear c14b2
         try clear c16
         try clear c16b0
         try clear c16b1
         try clear c16b2
         try clear c17
         try clear c17b0
         try clear c17b1
         try clear c17b2
         try clear c21
         try clear hcz18_0
         try clear hcz18_1
         try clear hcz18_2
         try clear hcz18_3
         try clear hcz18_4
         try clear hcz18_5
         try clear hcz18_6
         try clear hcz18_7
         try clear hcz18_8
         try clear hcz18_9
         try clear hcz21_0
         try clear hcz21_1
         try clear hcz21_2
         try clear hcz21_3
         try clear hcz21_4
         try clear hcz21_5
         try clear hcz21_6
         try clear hcz21_7
         try clear hcz21_8
         try clear hcz21_9
         try clear hfz18_0
         try clear hfz18_1
         try clear hfz18_2
         try clear hfz18_3
         try clear hfz18_4
         try clear hfz18_5
         try clear hfz18_6
         try clear hfz18_7
         try clear hfz18_8
         try clear hfz18_9
         try clear hfz21_0
         try clear hfz21_1
         try clear hfz21_2
         try clear hfz21_3
         try clear hfz21_4
         try clear hfz21_5
         try clear hfz21_6
         try clear hfz21_7
         try clear hfz21_8
         try clear hfz21_9
         try clear hx222_0
         try clear hx222_1
         try clear hx223_0
         try clear hx223_1
         try clear p2
         try clear p222
         try clear p223
         try clear q222
         try clear q223
         obtain ⟨x3_2, x5_2, rfl, rfl, HA, HK2, BK220, HB⟩ := hrel
         cases gk with
         | zero => exact absurd HA.out (by simp [witheref6_Prog.l1])
         | succ k2 =>
          have H := HA.out
          clear HA
          simp only [witheref6_Prog.l1] at H
          by_cases c22 : x5_2 < (l0_3.length : Int)
          ·rw [if_pos c22] at H
           have c22b0 : decide (x5_2 < (l0_3.length : Int)) = true := decide_eq_true c22
           clear c22
           by_cases c23 : x3_2.size + 9 ≤ 9223372036854775807
           ·rw [if_pos c23] at H
            have c23b0 := eq_true c23
            have c23b1 : decide (x3_2.size + 9 ≤ 9223372036854775807) = true := decide_eq_true c23
            try have c23b2 : (9223372036854775807 < x3_2.size + 9) = False := eq_false (Nat.not_lt.2 c23)
            by_cases c24 : 0 ≤ x5_2
            ·rw [if_pos c24] at H
             have c24b0 : decide (0 ≤ x5_2) = true := decide_eq_true c24
             clear c24
             replace H := Option.bind_eq_some_iff.mp H
             obtain ⟨t226, A250, H⟩ := H
             replace H : (if (x3_2 ++ (⟨#[116, 104, 114, 101, 97, 100, 32, 123, 10]⟩ : ByteArray)).size + t226.size ≤ 9223372036854775807 then (if ((x3_2 ++ (⟨#[116, 104, 114, 101, 97, 100, 32, 123, 10]⟩ : ByteArray)) ++ t226).size + 2 ≤ 9223372036854775807 then (witheref6_Prog.l1 k2 (((x3_2 ++ (⟨#[116, 104, 114, 101, 97, 100, 32, 123, 10]⟩ : ByteArray)) ++ t226) ++ (⟨#[125, 10]⟩ : ByteArray)) (wrap64 (x5_2 + 1)) a0_0 a0_1 l0_2 l0_3 a0_4 a0_5 a0_6 a0_7 a0_8 l0_9) else (none)) else (none)) = some r := H
             have A25 := Aside0.mk A250
             clear A250
             by_cases c26 : (x3_2 ++ (⟨#[116, 104, 114, 101, 97, 100, 32, 123, 10]⟩ : ByteArray)).size + t226.size ≤ 9223372036854775807
             ·rw [if_pos c26] at H
              have c26b0 := eq_true c26
              have c26b1 : decide ((x3_2 ++ (⟨#[116, 104, 114, 101, 97, 100, 32, 123, 10]⟩ : ByteArray)).size + t226.size ≤ 9223372036854775807) = true := decide_eq_true c26
              try (have c26b1s := c26b1; simp only [ByteArray.size_append, show (⟨#[116, 104, 114, 101, 97, 100, 32, 123, 10]⟩ : ByteArray).size = 9 from rfl] at c26b1s)
              try have c26b2 : (9223372036854775807 < (x3_2 ++ (⟨#[116, 104, 114, 101, 97, 100, 32, 123, 10]⟩ : ByteArray)).size + t226.size) = False := eq_false (Nat.not_lt.2 c26)
              try (have c26b2s := c26b2; simp only [ByteArray.size_append, show (⟨#[116, 104, 114, 101, 97, 100, 32, 123, 10]⟩ : ByteArray).size = 9 from rfl] at c26b2s)
              by_cases c27 : ((x3_2 ++ (⟨#[116, 104, 114, 101, 97, 100, 32, 123, 10]⟩ : ByteArray)) ++ t226).size + 2 ≤ 9223372036854775807
              ·rw [if_pos c27] at H
               have c27b0 := eq_true c27
               have c27b1 : decide (((x3_2 ++ (⟨#[116, 104, 114, 101, 97, 100, 32, 123, 10]⟩ : ByteArray)) ++ t226).size + 2 ≤ 9223372036854775807) = true := decide_eq_true c27
               try (have c27b1s := c27b1; simp only [ByteArray.size_append, show (⟨#[116, 104, 114, 101, 97, 100, 32, 123, 10]⟩ : ByteArray).size = 9 from rfl] at c27b1s)
               try have c27b2 : (9223372036854775807 < ((x3_2 ++ (⟨#[116, 104, 114, 101, 97, 100, 32, 123, 10]⟩ : ByteArray)) ++ t226).size + 2) = False := eq_false (Nat.not_lt.2 c27)
               try (have c27b2s := c27b2; simp only [ByteArray.size_append, show (⟨#[116, 104, 114, 101, 97, 100, 32, 123, 10]⟩ : ByteArray).size = 9 from rfl] at c27b2s)
               have H' := Aside0.mk H
               clear H
               have hcz28_0 : wr.cell? ⟨gb220, 0, none⟩ = some (.string a0_0) := (blk_cell BK220.out 0).trans rfl
               have hcz28_1 : wr.cell? ⟨gb220, 1, none⟩ = some (.int .i64 a0_1) := (blk_cell BK220.out 1).trans rfl
               have hcz28_2 : wr.cell? ⟨gb220, 2, none⟩ = some (.slice A0_2 l0_2.length c0_2) := (blk_cell BK220.out 2).trans rfl
               have hcz28_3 : wr.cell? ⟨gb220, 3, none⟩ = some (.slice A0_3 l0_3.length c0_3) := (blk_cell BK220.out 3).trans rfl
               have hcz28_4 : wr.cell? ⟨gb220, 4, none⟩ = some (.int .i64 a0_4) := (blk_cell BK220.out 4).trans rfl
               have hcz28_5 : wr.cell? ⟨gb220, 5, none⟩ = some (.int .i64 a0_5) := (blk_cell BK220.out 5).trans rfl
               have hcz28_6 : wr.cell? ⟨gb220, 6, none⟩ = some (.int .i64 a0_6) := (blk_cell BK220.out 6).trans rfl
               have hcz28_7 : wr.cell? ⟨gb220, 7, none⟩ = some (.string a0_7) := (blk_cell BK220.out 7).trans rfl
               have hcz28_8 : wr.cell? ⟨gb220, 8, none⟩ = some (.int .i64 a0_8) := (blk_cell BK220.out 8).trans rfl
               have hcz28_9 : wr.cell? ⟨gb220, 9, none⟩ = some (.slice A0_9 l0_9.length c0_9) := (blk_cell BK220.out 9).trans rfl
               have hfz28_0 := blk_frozen BK220.out 0
               have hfz28_1 := blk_frozen BK220.out 1
               have hfz28_2 := blk_frozen BK220.out 2
               have hfz28_3 := blk_frozen BK220.out 3
               have hfz28_4 := blk_frozen BK220.out 4
               have hfz28_5 := blk_frozen BK220.out 5
               have hfz28_6 := blk_frozen BK220.out 6
               have hfz28_7 := blk_frozen BK220.out 7
               have hfz28_8 := blk_frozen BK220.out 8
               have hfz28_9 := blk_frozen BK220.out 9
               have p225 : 0 ≤ (x5_2 : Int) := of_decide_eq_true (by first | (with_reducible assumption) | assumption)
               have q225 : x5_2 < (l0_3.length : Int) := of_decide_eq_true (by first | (with_reducible assumption) | assumption)
               obtain ⟨ad225, A225_0, c225_0, e225, hx225_0, hl225_0, hi225_0⟩ := at_L8 HR0_3.out x5_2 p225 q225
               cases e225
               replace hx225_0 := (HB.out.cell (World.block_lt_of_cell? w _ hx225_0)).trans hx225_0
               have HR225_0 := Aside0.mk hi225_0
               have HC225_0 := Aside0.mk hl225_0
               clear hi225_0 hl225_0
               replace p225 := eq_true p225
               replace q225 := eq_true q225
               go_wp2_with (first | ((with_reducible refine gate_callee (f := 22) rfl ?_); refine goesL_ (some 55) rfl rfl Tryd.func22 (by kernel_rfl) rfl #[.slice A225_0 (rd_L8 l0_3 x5_2).length c225_0, .int .i64 1] rfl (by (try simp only [List.map_toArray, List.map_cons, List.map_nil]); first | done | rfl | (simp only [List.length_drop, List.length_take]; rfl)) ?_; (with_reducible refine (witheref6_lines.calls k2 _ _ (rd_L8 l0_3 x5_2) 1 t226 _ ?side1 ?side2 A25.out).mono ?_); (case side1 => repeat (first | exact (Kd.C_below HR225_0.out HB.out) | (with_reducible refine Kd.C_alloc ?_ _) | (with_reducible refine Kd.C_drewN ?_ _) | (with_reducible refine Kd.C_drew ?_))); (case side2 => exact HC225_0.out); rintro e w29 ⟨rfl, hb⟩; refine ⟨_, rfl, ?_⟩; have n0_ := Aside0.mk (blk_below (g := gb220) (o := .cells #[.string a0_0, .int .i64 a0_1, .slice A0_2 l0_2.length c0_2, .slice (some ad225) l0_3.length c0_3, .int .i64 a0_4, .int .i64 a0_5, .int .i64 a0_6, .string a0_7, .int .i64 a0_8, .slice A0_9 l0_9.length c0_9] 28 (0, 0)) (by (with_reducible repeat (first | refine blk_drewN ?_ _ | refine blk_drew ?_ | refine blk_alloc ?_ _)); exact BK220.out) hb); have n1_ := Aside0.mk (below_step (by repeat (first | (with_reducible first | exact HB.out | apply below_alloc | apply pw_below_drewN | apply below_drew1 | refine below_set ?_ GE220.out) | exact HB.out)) hb); clear BK220; clear HB; have BK220 := n0_; have HB := n1_; clear n0_ n1_; (try clear hb); (try clear hb2); (try clear hk); (try clear hi)))
               go_roundg k2
               case measure => have := HK1.out; have := HK2.out; omega
               case rel => exact ⟨(((x3_2 ++ (⟨#[116, 104, 114, 101, 97, 100, 32, 123, 10]⟩ : ByteArray)) ++ t226) ++ (⟨#[125, 10]⟩ : ByteArray)), (wrap64 (x5_2 + 1)), (by first | rfl | (simp; done) | (simp [*]; done)), (by first | rfl | (simp; done) | (simp [*]; done)), H', ⟨by have := HK1.out; have := HK2.out; omega⟩, ⟨by (with_reducible repeat (first | refine blk_drewN ?_ _ | refine blk_drew ?_ | refine blk_alloc ?_ _)); exact BK220.out⟩, ⟨by repeat (first | (with_reducible first | exact HB.out | apply below_alloc | apply pw_below_drewN | apply below_drew1 | refine below_set ?_ GE220.out) | exact HB.out)⟩⟩
              ·rw [if_neg c27] at H
               exact absurd H (by simp)
             ·rw [if_neg c26] at H
              exact absurd H (by simp)
            ·rw [if_neg c24] at H
             exact absurd H (by simp)
           ·rw [if_neg c23] at H
            exact absurd H (by simp)
          ·rw [if_neg c22] at H
           have c22b0 : decide (x5_2 < (l0_3.length : Int)) = false := decide_eq_false c22
           clear c22
           by_cases c30 : a0_4 = 1
           ·rw [if_pos c30] at H
            have c30b0 : (a0_4 == 1) = true := beq_iff_eq.mpr c30
            have c30b1 : (a0_4 != 1) = false := bne_eq_false_iff_eq.mpr c30
            clear c30
            by_cases c31 : x3_2.size + 6 ≤ 9223372036854775807
            ·rw [if_pos c31] at H
             have c31b0 := eq_true c31
             have c31b1 : decide (x3_2.size + 6 ≤ 9223372036854775807) = true := decide_eq_true c31
             try have c31b2 : (9223372036854775807 < x3_2.size + 6) = False := eq_false (Nat.not_lt.2 c31)
             by_cases c32 : (x3_2 ++ (⟨#[101, 120, 105, 115, 116, 115]⟩ : ByteArray)).size + 1 ≤ 9223372036854775807
             ·rw [if_pos c32] at H
              have c32b0 := eq_true c32
              have c32b1 : decide ((x3_2 ++ (⟨#[101, 120, 105, 115, 116, 115]⟩ : ByteArray)).size + 1 ≤ 9223372036854775807) = true := decide_eq_true c32
              try (have c32b1s := c32b1; simp only [ByteArray.size_append, show (⟨#[101, 120, 105, 115, 116, 115]⟩ : ByteArray).size = 6 from rfl] at c32b1s)
              try have c32b2 : (9223372036854775807 < (x3_2 ++ (⟨#[101, 120, 105, 115, 116, 115]⟩ : ByteArray)).size + 1) = False := eq_false (Nat.not_lt.2 c32)
              try (have c32b2s := c32b2; simp only [ByteArray.size_append, show (⟨#[101, 120, 105, 115, 116, 115]⟩ : ByteArray).size = 6 from rfl] at c32b2s)
              replace H := Option.bind_eq_some_iff.mp H
              obtain ⟨t227, A330, H⟩ := H
              replace H : (if ((x3_2 ++ (⟨#[101, 120, 105, 115, 116, 115]⟩ : ByteArray)) ++ (⟨#[32]⟩ : ByteArray)).size + t227.size ≤ 9223372036854775807 then (if (((x3_2 ++ (⟨#[101, 120, 105, 115, 116, 115]⟩ : ByteArray)) ++ (⟨#[32]⟩ : ByteArray)) ++ t227).size + 1 ≤ 9223372036854775807 then (some ((((x3_2 ++ (⟨#[101, 120, 105, 115, 116, 115]⟩ : ByteArray)) ++ (⟨#[32]⟩ : ByteArray)) ++ t227) ++ (⟨#[10]⟩ : ByteArray))) else (none)) else (none)) = some r := H
              have A33 := Aside0.mk A330
              clear A330
              by_cases c34 : ((x3_2 ++ (⟨#[101, 120, 105, 115, 116, 115]⟩ : ByteArray)) ++ (⟨#[32]⟩ : ByteArray)).size + t227.size ≤ 9223372036854775807
              ·rw [if_pos c34] at H
               have c34b0 := eq_true c34
               have c34b1 : decide (((x3_2 ++ (⟨#[101, 120, 105, 115, 116, 115]⟩ : ByteArray)) ++ (⟨#[32]⟩ : ByteArray)).size + t227.size ≤ 9223372036854775807) = true := decide_eq_true c34
               try (have c34b1s := c34b1; simp only [ByteArray.size_append, show (⟨#[101, 120, 105, 115, 116, 115]⟩ : ByteArray).size = 6 from rfl, show (⟨#[32]⟩ : ByteArray).size = 1 from rfl] at c34b1s)
               try have c34b2 : (9223372036854775807 < ((x3_2 ++ (⟨#[101, 120, 105, 115, 116, 115]⟩ : ByteArray)) ++ (⟨#[32]⟩ : ByteArray)).size + t227.size) = False := eq_false (Nat.not_lt.2 c34)
               try (have c34b2s := c34b2; simp only [ByteArray.size_append, show (⟨#[101, 120, 105, 115, 116, 115]⟩ : ByteArray).size = 6 from rfl, show (⟨#[32]⟩ : ByteArray).size = 1 from rfl] at c34b2s)
               by_cases c35 : (((x3_2 ++ (⟨#[101, 120, 105, 115, 116, 115]⟩ : ByteArray)) ++ (⟨#[32]⟩ : ByteArray)) ++ t227).size + 1 ≤ 9223372036854775807
               ·rw [if_pos c35] at H
                have c35b0 := eq_true c35
                have c35b1 : decide ((((x3_2 ++ (⟨#[101, 120, 105, 115, 116, 115]⟩ : ByteArray)) ++ (⟨#[32]⟩ : ByteArray)) ++ t227).size + 1 ≤ 9223372036854775807) = true := decide_eq_true c35
                try (have c35b1s := c35b1; simp only [ByteArray.size_append, show (⟨#[101, 120, 105, 115, 116, 115]⟩ : ByteArray).size = 6 from rfl, show (⟨#[32]⟩ : ByteArray).size = 1 from rfl] at c35b1s)
                try have c35b2 : (9223372036854775807 < (((x3_2 ++ (⟨#[101, 120, 105, 115, 116, 115]⟩ : ByteArray)) ++ (⟨#[32]⟩ : ByteArray)) ++ t227).size + 1) = False := eq_false (Nat.not_lt.2 c35)
                try (have c35b2s := c35b2; simp only [ByteArray.size_append, show (⟨#[101, 120, 105, 115, 116, 115]⟩ : ByteArray).size = 6 from rfl, show (⟨#[32]⟩ : ByteArray).size = 1 from rfl] at c35b2s)
                obtain rfl := Option.some.inj H
                have hcz36_0 : wr.cell? ⟨gb220, 0, none⟩ = some (.string a0_0) := (blk_cell BK220.out 0).trans rfl
                have hcz36_1 : wr.cell? ⟨gb220, 1, none⟩ = some (.int .i64 a0_1) := (blk_cell BK220.out 1).trans rfl
                have hcz36_2 : wr.cell? ⟨gb220, 2, none⟩ = some (.slice A0_2 l0_2.length c0_2) := (blk_cell BK220.out 2).trans rfl
                have hcz36_3 : wr.cell? ⟨gb220, 3, none⟩ = some (.slice A0_3 l0_3.length c0_3) := (blk_cell BK220.out 3).trans rfl
                have hcz36_4 : wr.cell? ⟨gb220, 4, none⟩ = some (.int .i64 a0_4) := (blk_cell BK220.out 4).trans rfl
                have hcz36_5 : wr.cell? ⟨gb220, 5, none⟩ = some (.int .i64 a0_5) := (blk_cell BK220.out 5).trans rfl
                have hcz36_6 : wr.cell? ⟨gb220, 6, none⟩ = some (.int .i64 a0_6) := (blk_cell BK220.out 6).trans rfl
                have hcz36_7 : wr.cell? ⟨gb220, 7, none⟩ = some (.string a0_7) := (blk_cell BK220.out 7).trans rfl
                have hcz36_8 : wr.cell? ⟨gb220, 8, none⟩ = some (.int .i64 a0_8) := (blk_cell BK220.out 8).trans rfl
                have hcz36_9 : wr.cell? ⟨gb220, 9, none⟩ = some (.slice A0_9 l0_9.length c0_9) := (blk_cell BK220.out 9).trans rfl
                have hfz36_0 := blk_frozen BK220.out 0
                have hfz36_1 := blk_frozen BK220.out 1
                have hfz36_2 := blk_frozen BK220.out 2
                have hfz36_3 := blk_frozen BK220.out 3
                have hfz36_4 := blk_frozen BK220.out 4
                have hfz36_5 := blk_frozen BK220.out 5
                have hfz36_6 := blk_frozen BK220.out 6
                have hfz36_7 := blk_frozen BK220.out 7
                have hfz36_8 := blk_frozen BK220.out 8
                have hfz36_9 := blk_frozen BK220.out 9
                go_wp2_with (first | ((with_reducible refine gate_callee (f := 13) rfl ?_); refine goesL_ (some 72) rfl rfl Tryd.func13 (by kernel_rfl) rfl #[.agg #[.int .i64 a0_5, .int .i64 a0_6, .string a0_7, .int .i64 a0_8, .slice A0_9 l0_9.length c0_9]] rfl (by (try simp only [List.map_toArray, List.map_cons, List.map_nil]); first | done | rfl | (simp only [List.length_drop, List.length_take]; rfl)) ?_; (with_reducible refine (witheref6_Cond.calls k2 a0_5 a0_6 a0_7 a0_8 _ _ l0_9 t227 _ ?side1 ?side2 A33.out).mono ?_); (case side1 => repeat (first | exact (Kd.C_below HR0_9.out HB.out) | (with_reducible refine Kd.C_alloc ?_ _) | (with_reducible refine Kd.C_drewN ?_ _) | (with_reducible refine Kd.C_drew ?_))); (case side2 => exact HC0_9.out); rintro e w37 ⟨rfl, hb⟩; refine ⟨_, rfl, ?_⟩; have n0_ := Aside0.mk (blk_below (g := gb220) (o := .cells #[.string a0_0, .int .i64 a0_1, .slice A0_2 l0_2.length c0_2, .slice A0_3 l0_3.length c0_3, .int .i64 a0_4, .int .i64 a0_5, .int .i64 a0_6, .string a0_7, .int .i64 a0_8, .slice A0_9 l0_9.length c0_9] 28 (0, 0)) (by (with_reducible repeat (first | refine blk_drewN ?_ _ | refine blk_drew ?_ | refine blk_alloc ?_ _)); exact BK220.out) hb); have n1_ := Aside0.mk (below_step (by repeat (first | (with_reducible first | exact HB.out | apply below_alloc | apply pw_below_drewN | apply below_drew1 | refine below_set ?_ GE220.out) | exact HB.out)) hb); clear BK220; clear HB; have BK220 := n0_; have HB := n1_; clear n0_ n1_; (try clear hb); (try clear hb2); (try clear hk); (try clear hi)))
                go_ret
                exact ⟨by first | rfl | (simp [errW_none, errW_some] <;> rfl) | (simp [*, errW_none, errW_some] <;> rfl), by repeat (first | (with_reducible first | exact HB.out | apply below_alloc | apply pw_below_drewN | apply below_drew1 | refine below_set ?_ GE220.out) | exact HB.out)⟩
               ·rw [if_neg c35] at H
                exact absurd H (by simp)
              ·rw [if_neg c34] at H
               exact absurd H (by simp)
             ·rw [if_neg c32] at H
              exact absurd H (by simp)
            ·rw [if_neg c31] at H
             exact absurd H (by simp)
           ·rw [if_neg c30] at H
            have c30b0 : (a0_4 == 1) = false := beq_eq_false_iff_ne.mpr c30
            have c30b1 : (a0_4 != 1) = true := bne_iff_ne.mpr c30
            by_cases c38 : a0_4 = 2
            ·rw [if_pos c38] at H
             have c38b0 : (a0_4 == 2) = true := beq_iff_eq.mpr c38
             have c38b1 : (a0_4 != 2) = false := bne_eq_false_iff_eq.mpr c38
             clear c38
             by_cases c39 : x3_2.size + 6 ≤ 9223372036854775807
             ·rw [if_pos c39] at H
              have c39b0 := eq_true c39
              have c39b1 : decide (x3_2.size + 6 ≤ 9223372036854775807) = true := decide_eq_true c39
              try have c39b2 : (9223372036854775807 < x3_2.size + 6) = False := eq_false (Nat.not_lt.2 c39)
              by_cases c40 : (x3_2 ++ (⟨#[102, 111, 114, 97, 108, 108]⟩ : ByteArray)).size + 1 ≤ 9223372036854775807
              ·rw [if_pos c40] at H
               have c40b0 := eq_true c40
               have c40b1 : decide ((x3_2 ++ (⟨#[102, 111, 114, 97, 108, 108]⟩ : ByteArray)).size + 1 ≤ 9223372036854775807) = true := decide_eq_true c40
               try (have c40b1s := c40b1; simp only [ByteArray.size_append, show (⟨#[102, 111, 114, 97, 108, 108]⟩ : ByteArray).size = 6 from rfl] at c40b1s)
               try have c40b2 : (9223372036854775807 < (x3_2 ++ (⟨#[102, 111, 114, 97, 108, 108]⟩ : ByteArray)).size + 1) = False := eq_false (Nat.not_lt.2 c40)
               try (have c40b2s := c40b2; simp only [ByteArray.size_append, show (⟨#[102, 111, 114, 97, 108, 108]⟩ : ByteArray).size = 6 from rfl] at c40b2s)
               replace H := Option.bind_eq_some_iff.mp H
               obtain ⟨t228, A410, H⟩ := H
               replace H : (if ((x3_2 ++ (⟨#[102, 111, 114, 97, 108, 108]⟩ : ByteArray)) ++ (⟨#[32]⟩ : ByteArray)).size + t228.size ≤ 9223372036854775807 then (if (((x3_2 ++ (⟨#[102, 111, 114, 97, 108, 108]⟩ : ByteArray)) ++ (⟨#[32]⟩ : ByteArray)) ++ t228).size + 1 ≤ 9223372036854775807 then (some ((((x3_2 ++ (⟨#[102, 111, 114, 97, 108, 108]⟩ : ByteArray)) ++ (⟨#[32]⟩ : ByteArray)) ++ t228) ++ (⟨#[10]⟩ : ByteArray))) else (none)) else (none)) = some r := H
               have A41 := Aside0.mk A410
               clear A410
               by_cases c42 : ((x3_2 ++ (⟨#[102, 111, 114, 97, 108, 108]⟩ : ByteArray)) ++ (⟨#[32]⟩ : ByteArray)).size + t228.size ≤ 9223372036854775807
               ·rw [if_pos c42] at H
                have c42b0 := eq_true c42
                have c42b1 : decide (((x3_2 ++ (⟨#[102, 111, 114, 97, 108, 108]⟩ : ByteArray)) ++ (⟨#[32]⟩ : ByteArray)).size + t228.size ≤ 9223372036854775807) = true := decide_eq_true c42
                try (have c42b1s := c42b1; simp only [ByteArray.size_append, show (⟨#[102, 111, 114, 97, 108, 108]⟩ : ByteArray).size = 6 from rfl, show (⟨#[32]⟩ : ByteArray).size = 1 from rfl] at c42b1s)
                try have c42b2 : (9223372036854775807 < ((x3_2 ++ (⟨#[102, 111, 114, 97, 108, 108]⟩ : ByteArray)) ++ (⟨#[32]⟩ : ByteArray)).size + t228.size) = False := eq_false (Nat.not_lt.2 c42)
                try (have c42b2s := c42b2; simp only [ByteArray.size_append, show (⟨#[102, 111, 114, 97, 108, 108]⟩ : ByteArray).size = 6 from rfl, show (⟨#[32]⟩ : ByteArray).size = 1 from rfl] at c42b2s)
                by_cases c43 : (((x3_2 ++ (⟨#[102, 111, 114, 97, 108, 108]⟩ : ByteArray)) ++ (⟨#[32]⟩ : ByteArray)) ++ t228).size + 1 ≤ 9223372036854775807
                ·rw [if_pos c43] at H
                 have c43b0 := eq_true c43
                 have c43b1 : decide ((((x3_2 ++ (⟨#[102, 111, 114, 97, 108, 108]⟩ : ByteArray)) ++ (⟨#[32]⟩ : ByteArray)) ++ t228).size + 1 ≤ 9223372036854775807) = true := decide_eq_true c43
                 try (have c43b1s := c43b1; simp only [ByteArray.size_append, show (⟨#[102, 111, 114, 97, 108, 108]⟩ : ByteArray).size = 6 from rfl, show (⟨#[32]⟩ : ByteArray).size = 1 from rfl] at c43b1s)
                 try have c43b2 : (9223372036854775807 < (((x3_2 ++ (⟨#[102, 111, 114, 97, 108, 108]⟩ : ByteArray)) ++ (⟨#[32]⟩ : ByteArray)) ++ t228).size + 1) = False := eq_false (Nat.not_lt.2 c43)
                 try (have c43b2s := c43b2; simp only [ByteArray.size_append, show (⟨#[102, 111, 114, 97, 108, 108]⟩ : ByteArray).size = 6 from rfl, show (⟨#[32]⟩ : ByteArray).size = 1 from rfl] at c43b2s)
                 obtain rfl := Option.some.inj H
                 have hcz44_0 : wr.cell? ⟨gb220, 0, none⟩ = some (.string a0_0) := (blk_cell BK220.out 0).trans rfl
                 have hcz44_1 : wr.cell? ⟨gb220, 1, none⟩ = some (.int .i64 a0_1) := (blk_cell BK220.out 1).trans rfl
                 have hcz44_2 : wr.cell? ⟨gb220, 2, none⟩ = some (.slice A0_2 l0_2.length c0_2) := (blk_cell BK220.out 2).trans rfl
                 have hcz44_3 : wr.cell? ⟨gb220, 3, none⟩ = some (.slice A0_3 l0_3.length c0_3) := (blk_cell BK220.out 3).trans rfl
                 have hcz44_4 : wr.cell? ⟨gb220, 4, none⟩ = some (.int .i64 a0_4) := (blk_cell BK220.out 4).trans rfl
                 have hcz44_5 : wr.cell? ⟨gb220, 5, none⟩ = some (.int .i64 a0_5) := (blk_cell BK220.out 5).trans rfl
                 have hcz44_6 : wr.cell? ⟨gb220, 6, none⟩ = some (.int .i64 a0_6) := (blk_cell BK220.out 6).trans rfl
                 have hcz44_7 : wr.cell? ⟨gb220, 7, none⟩ = some (.string a0_7) := (blk_cell BK220.out 7).trans rfl
                 have hcz44_8 : wr.cell? ⟨gb220, 8, none⟩ = some (.int .i64 a0_8) := (blk_cell BK220.out 8).trans rfl
                 have hcz44_9 : wr.cell? ⟨gb220, 9, none⟩ = some (.slice A0_9 l0_9.length c0_9) := (blk_cell BK220.out 9).trans rfl
                 have hfz44_0 := blk_frozen BK220.out 0
                 have hfz44_1 := blk_frozen BK220.out 1
                 have hfz44_2 := blk_frozen BK220.out 2
                 have hfz44_3 := blk_frozen BK220.out 3
                 have hfz44_4 := blk_frozen BK220.out 4
                 have hfz44_5 := blk_frozen BK220.out 5
                 have hfz44_6 := blk_frozen BK220.out 6
                 have hfz44_7 := blk_frozen BK220.out 7
                 have hfz44_8 := blk_frozen BK220.out 8
                 have hfz44_9 := blk_frozen BK220.out 9
                 go_wp2_with (first | ((with_reducible refine gate_callee (f := 13) rfl ?_); refine goesL_ (some 72) rfl rfl Tryd.func13 (by kernel_rfl) rfl #[.agg #[.int .i64 a0_5, .int .i64 a0_6, .string a0_7, .int .i64 a0_8, .slice A0_9 l0_9.length c0_9]] rfl (by (try simp only [List.map_toArray, List.map_cons, List.map_nil]); first | done | rfl | (simp only [List.length_drop, List.length_take]; rfl)) ?_; (with_reducible refine (witheref6_Cond.calls k2 a0_5 a0_6 a0_7 a0_8 _ _ l0_9 t228 _ ?side1 ?side2 A41.out).mono ?_); (case side1 => repeat (first | exact (Kd.C_below HR0_9.out HB.out) | (with_reducible refine Kd.C_alloc ?_ _) | (with_reducible refine Kd.C_drewN ?_ _) | (with_reducible refine Kd.C_drew ?_))); (case side2 => exact HC0_9.out); rintro e w45 ⟨rfl, hb⟩; refine ⟨_, rfl, ?_⟩; have n0_ := Aside0.mk (blk_below (g := gb220) (o := .cells #[.string a0_0, .int .i64 a0_1, .slice A0_2 l0_2.length c0_2, .slice A0_3 l0_3.length c0_3, .int .i64 a0_4, .int .i64 a0_5, .int .i64 a0_6, .string a0_7, .int .i64 a0_8, .slice A0_9 l0_9.length c0_9] 28 (0, 0)) (by (with_reducible repeat (first | refine blk_drewN ?_ _ | refine blk_drew ?_ | refine blk_alloc ?_ _)); exact BK220.out) hb); have n1_ := Aside0.mk (below_step (by repeat (first | (with_reducible first | exact HB.out | apply below_alloc | apply pw_below_drewN | apply below_drew1 | refine below_set ?_ GE220.out) | exact HB.out)) hb); clear BK220; clear HB; have BK220 := n0_; have HB := n1_; clear n0_ n1_; (try clear hb); (try clear hb2); (try clear hk); (try clear hi)))
                 go_ret
                 exact ⟨by first | rfl | (simp [errW_none, errW_some] <;> rfl) | (simp [*, errW_none, errW_some] <;> rfl), by repeat (first | (with_reducible first | exact HB.out | apply below_alloc | apply pw_below_drewN | apply below_drew1 | refine below_set ?_ GE220.out) | exact HB.out)⟩
                ·rw [if_neg c43] at H
                 exact absurd H (by simp)
               ·rw [if_neg c42] at H
                exact absurd H (by simp)
              ·rw [if_neg c40] at H
               exact absurd H (by simp)
             ·rw [if_neg c39] at H
              exact absurd H (by simp)
            ·rw [if_neg c38] at H
             have c38b0 : (a0_4 == 2) = false := beq_eq_false_iff_ne.mpr c38
             have c38b1 : (a0_4 != 2) = true := bne_iff_ne.mpr c38
             by_cases c46 : x3_2.size + 1 ≤ 9223372036854775807
             ·rw [if_pos c46] at H
              have c46b0 := eq_true c46
              have c46b1 : decide (x3_2.size + 1 ≤ 9223372036854775807) = true := decide_eq_true c46
              try have c46b2 : (9223372036854775807 < x3_2.size + 1) = False := eq_false (Nat.not_lt.2 c46)
              replace H := Option.bind_eq_some_iff.mp H
              obtain ⟨t229, A470, H⟩ := H
              replace H : (if (x3_2 ++ (⟨#[32]⟩ : ByteArray)).size + t229.size ≤ 9223372036854775807 then (if ((x3_2 ++ (⟨#[32]⟩ : ByteArray)) ++ t229).size + 1 ≤ 9223372036854775807 then (some (((x3_2 ++ (⟨#[32]⟩ : ByteArray)) ++ t229) ++ (⟨#[10]⟩ : ByteArray))) else (none)) else (none)) = some r := H
              have A47 := Aside0.mk A470
              clear A470
              by_cases c48 : (x3_2 ++ (⟨#[32]⟩ : ByteArray)).size + t229.size ≤ 9223372036854775807
              ·rw [if_pos c48] at H
               have c48b0 := eq_true c48
               have c48b1 : decide ((x3_2 ++ (⟨#[32]⟩ : ByteArray)).size + t229.size ≤ 9223372036854775807) = true := decide_eq_true c48
               try (have c48b1s := c48b1; simp only [ByteArray.size_append, show (⟨#[32]⟩ : ByteArray).size = 1 from rfl] at c48b1s)
               try have c48b2 : (9223372036854775807 < (x3_2 ++ (⟨#[32]⟩ : ByteArray)).size + t229.size) = False := eq_false (Nat.not_lt.2 c48)
               try (have c48b2s := c48b2; simp only [ByteArray.size_append, show (⟨#[32]⟩ : ByteArray).size = 1 from rfl] at c48b2s)
               by_cases c49 : ((x3_2 ++ (⟨#[32]⟩ : ByteArray)) ++ t229).size + 1 ≤ 9223372036854775807
               ·rw [if_pos c49] at H
                have c49b0 := eq_true c49
                have c49b1 : decide (((x3_2 ++ (⟨#[32]⟩ : ByteArray)) ++ t229).size + 1 ≤ 9223372036854775807) = true := decide_eq_true c49
                try (have c49b1s := c49b1; simp only [ByteArray.size_append, show (⟨#[32]⟩ : ByteArray).size = 1 from rfl] at c49b1s)
                try have c49b2 : (9223372036854775807 < ((x3_2 ++ (⟨#[32]⟩ : ByteArray)) ++ t229).size + 1) = False := eq_false (Nat.not_lt.2 c49)
                try (have c49b2s := c49b2; simp only [ByteArray.size_append, show (⟨#[32]⟩ : ByteArray).size = 1 from rfl] at c49b2s)
                obtain rfl := Option.some.inj H
                have hcz50_0 : wr.cell? ⟨gb220, 0, none⟩ = some (.string a0_0) := (blk_cell BK220.out 0).trans rfl
                have hcz50_1 : wr.cell? ⟨gb220, 1, none⟩ = some (.int .i64 a0_1) := (blk_cell BK220.out 1).trans rfl
                have hcz50_2 : wr.cell? ⟨gb220, 2, none⟩ = some (.slice A0_2 l0_2.length c0_2) := (blk_cell BK220.out 2).trans rfl
                have hcz50_3 : wr.cell? ⟨gb220, 3, none⟩ = some (.slice A0_3 l0_3.length c0_3) := (blk_cell BK220.out 3).trans rfl
                have hcz50_4 : wr.cell? ⟨gb220, 4, none⟩ = some (.int .i64 a0_4) := (blk_cell BK220.out 4).trans rfl
                have hcz50_5 : wr.cell? ⟨gb220, 5, none⟩ = some (.int .i64 a0_5) := (blk_cell BK220.out 5).trans rfl
                have hcz50_6 : wr.cell? ⟨gb220, 6, none⟩ = some (.int .i64 a0_6) := (blk_cell BK220.out 6).trans rfl
                have hcz50_7 : wr.cell? ⟨gb220, 7, none⟩ = some (.string a0_7) := (blk_cell BK220.out 7).trans rfl
                have hcz50_8 : wr.cell? ⟨gb220, 8, none⟩ = some (.int .i64 a0_8) := (blk_cell BK220.out 8).trans rfl
                have hcz50_9 : wr.cell? ⟨gb220, 9, none⟩ = some (.slice A0_9 l0_9.length c0_9) := (blk_cell BK220.out 9).trans rfl
                have hfz50_0 := blk_frozen BK220.out 0
                have hfz50_1 := blk_frozen BK220.out 1
                have hfz50_2 := blk_frozen BK220.out 2
                have hfz50_3 := blk_frozen BK220.out 3
                have hfz50_4 := blk_frozen BK220.out 4
                have hfz50_5 := blk_frozen BK220.out 5
                have hfz50_6 := blk_frozen BK220.out 6
                have hfz50_7 := blk_frozen BK220.out 7
                have hfz50_8 := blk_frozen BK220.out 8
                have hfz50_9 := blk_frozen BK220.out 9
                go_wp2_with (first | ((with_reducible refine gate_callee (f := 13) rfl ?_); refine goesL_ (some 72) rfl rfl Tryd.func13 (by kernel_rfl) rfl #[.agg #[.int .i64 a0_5, .int .i64 a0_6, .string a0_7, .int .i64 a0_8, .slice A0_9 l0_9.length c0_9]] rfl (by (try simp only [List.map_toArray, List.map_cons, List.map_nil]); first | done | rfl | (simp only [List.length_drop, List.length_take]; rfl)) ?_; (with_reducible refine (witheref6_Cond.calls k2 a0_5 a0_6 a0_7 a0_8 _ _ l0_9 t229 _ ?side1 ?side2 A47.out).mono ?_); (case side1 => repeat (first | exact (Kd.C_below HR0_9.out HB.out) | (with_reducible refine Kd.C_alloc ?_ _) | (with_reducible refine Kd.C_drewN ?_ _) | (with_reducible refine Kd.C_drew ?_))); (case side2 => exact HC0_9.out); rintro e w51 ⟨rfl, hb⟩; refine ⟨_, rfl, ?_⟩; have n0_ := Aside0.mk (blk_below (g := gb220) (o := .cells #[.string a0_0, .int .i64 a0_1, .slice A0_2 l0_2.length c0_2, .slice A0_3 l0_3.length c0_3, .int .i64 a0_4, .int .i64 a0_5, .int .i64 a0_6, .string a0_7, .int .i64 a0_8, .slice A0_9 l0_9.length c0_9] 28 (0, 0)) (by (with_reducible repeat (first | refine blk_drewN ?_ _ | refine blk_drew ?_ | refine blk_alloc ?_ _)); exact BK220.out) hb); have n1_ := Aside0.mk (below_step (by repeat (first | (with_reducible first | exact HB.out | apply below_alloc | apply pw_below_drewN | apply below_drew1 | refine below_set ?_ GE220.out) | exact HB.out)) hb); clear BK220; clear HB; have BK220 := n0_; have HB := n1_; clear n0_ n1_; (try clear hb); (try clear hb2); (try clear hk); (try clear hi)))
                go_ret
                exact ⟨by first | rfl | (simp [errW_none, errW_some] <;> rfl) | (simp [*, errW_none, errW_some] <;> rfl), by repeat (first | (with_reducible first | exact HB.out | apply below_alloc | apply pw_below_drewN | apply below_drew1 | refine below_set ?_ GE220.out) | exact HB.out)⟩
               ·rw [if_neg c49] at H
                exact absurd H (by simp)
              ·rw [if_neg c48] at H
               exact absurd H (by simp)
             ·rw [if_neg c46] at H
              exact absurd H (by simp)
    ·rw [if_neg c6] at H
     exact absurd H (by simp)
   ·rw [if_neg c5] at H
    exact absurd H (by simp)
  ·rw [if_neg c3] at H
   exact absurd H (by simp)
 ·rw [if_neg c2] at H
  exact absurd H (by simp)

end Go.Proofs.YtpldhihdlgghlaaDoor.PS
