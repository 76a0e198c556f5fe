-- made by fvprint.py over the kit's print
import Derived.Test.YtpldhihdlgghlaaDoorPSx0
import Derived.Test.YtpldhihdlgghlaaDoorPSx10
import Derived.Test.YtpldhihdlgghlaaDoorPSx11
import Derived.Test.YtpldhihdlgghlaaDoorPSx12
namespace Go.Proofs.YtpldhihdlgghlaaDoor.PS
open Go.RowKit Go.Proofs.YtpldhihdlgghlaaDoorW.PrintWords Go.Proofs.YtpldhihdlgghlaaDoorW.PrintLast Go.Proofs.YtpldhihdlgghlaaDoorW.PrintMore
attribute [local go_sem] max2_int min2_int max_two min_two max_three min_three max_four min_four   -- for this text's walks alone
set_option linter.unusedVariables false
set_option linter.unusedSimpArgs false

attribute [local go_sem] cell_set_some
/-! ### witheref6_lines: function 22 -/
mutual
def witheref6_lines.l0 : Nat → List (S45) → Int → ByteArray → Int → Option (ByteArray)
 | 0, _, _, _, _ => none
 | k + 1, x0, x1, x5, x6 => if x6 < (x0.length : Int) then (if 0 ≤ x6 then ((witheref6_kid.f k ((rd_T45 x0 x6).f4) 0).bind fun t210 => ((witheref6_in.f k x1).bind fun t211 => (if ((rd_T45 x0 x6).f0) = 1 then (if x5.size + t211.size ≤ 9223372036854775807 then (if (x5 ++ t211).size + ((rd_T45 x0 x6).f2).size ≤ 9223372036854775807 then (if ((x5 ++ t211) ++ ((rd_T45 x0 x6).f2)).size + 3 ≤ 9223372036854775807 then (if (((x5 ++ t211) ++ ((rd_T45 x0 x6).f2)) ++ (⟨#[32, 61, 32]⟩ : ByteArray)).size + t210.size ≤ 9223372036854775807 then (if ((((x5 ++ t211) ++ ((rd_T45 x0 x6).f2)) ++ (⟨#[32, 61, 32]⟩ : ByteArray)) ++ t210).size + 2 ≤ 9223372036854775807 then (witheref6_lines.l0 k x0 x1 (((((x5 ++ t211) ++ ((rd_T45 x0 x6).f2)) ++ (⟨#[32, 61, 32]⟩ : ByteArray)) ++ t210) ++ (⟨#[59, 10]⟩ : ByteArray)) (wrap64 (x6 + 1))) else (none)) else (none)) else (none)) else (none)) else (none)) else (if ((rd_T45 x0 x6).f0) = 2 then (if x5.size + t211.size ≤ 9223372036854775807 then (if (x5 ++ t211).size + ((rd_T45 x0 x6).f2).size ≤ 9223372036854775807 then (if ((x5 ++ t211) ++ ((rd_T45 x0 x6).f2)).size + 8 ≤ 9223372036854775807 then ((witheref6_Mode.f ((rd_T45 x0 x6).f1)).bind fun t212 => (if (((x5 ++ t211) ++ ((rd_T45 x0 x6).f2)) ++ (⟨#[32, 61, 32, 108, 111, 97, 100, 32]⟩ : ByteArray)).size + t212.size ≤ 9223372036854775807 then (if ((((x5 ++ t211) ++ ((rd_T45 x0 x6).f2)) ++ (⟨#[32, 61, 32, 108, 111, 97, 100, 32]⟩ : ByteArray)) ++ t212).size + 1 ≤ 9223372036854775807 then (if (((((x5 ++ t211) ++ ((rd_T45 x0 x6).f2)) ++ (⟨#[32, 61, 32, 108, 111, 97, 100, 32]⟩ : ByteArray)) ++ t212) ++ (⟨#[32]⟩ : ByteArray)).size + ((rd_T45 x0 x6).f3).size ≤ 9223372036854775807 then (if ((((((x5 ++ t211) ++ ((rd_T45 x0 x6).f2)) ++ (⟨#[32, 61, 32, 108, 111, 97, 100, 32]⟩ : ByteArray)) ++ t212) ++ (⟨#[32]⟩ : ByteArray)) ++ ((rd_T45 x0 x6).f3)).size + 2 ≤ 9223372036854775807 then (witheref6_lines.l0 k x0 x1 (((((((x5 ++ t211) ++ ((rd_T45 x0 x6).f2)) ++ (⟨#[32, 61, 32, 108, 111, 97, 100, 32]⟩ : ByteArray)) ++ t212) ++ (⟨#[32]⟩ : ByteArray)) ++ ((rd_T45 x0 x6).f3)) ++ (⟨#[59, 10]⟩ : ByteArray)) (wrap64 (x6 + 1))) else (none)) else (none)) else (none)) else (none))) else (none)) else (none)) else (none)) else (if ((rd_T45 x0 x6).f0) = 3 then (if x5.size + t211.size ≤ 9223372036854775807 then (if (x5 ++ t211).size + 6 ≤ 9223372036854775807 then ((witheref6_Mode.f ((rd_T45 x0 x6).f1)).bind fun t213 => (if ((x5 ++ t211) ++ (⟨#[115, 116, 111, 114, 101, 32]⟩ : ByteArray)).size + t213.size ≤ 9223372036854775807 then (if (((x5 ++ t211) ++ (⟨#[115, 116, 111, 114, 101, 32]⟩ : ByteArray)) ++ t213).size + 1 ≤ 9223372036854775807 then (if ((((x5 ++ t211) ++ (⟨#[115, 116, 111, 114, 101, 32]⟩ : ByteArray)) ++ t213) ++ (⟨#[32]⟩ : ByteArray)).size + ((rd_T45 x0 x6).f3).size ≤ 9223372036854775807 then (if (((((x5 ++ t211) ++ (⟨#[115, 116, 111, 114, 101, 32]⟩ : ByteArray)) ++ t213) ++ (⟨#[32]⟩ : ByteArray)) ++ ((rd_T45 x0 x6).f3)).size + 1 ≤ 9223372036854775807 then (if ((((((x5 ++ t211) ++ (⟨#[115, 116, 111, 114, 101, 32]⟩ : ByteArray)) ++ t213) ++ (⟨#[32]⟩ : ByteArray)) ++ ((rd_T45 x0 x6).f3)) ++ (⟨#[32]⟩ : ByteArray)).size + t210.size ≤ 9223372036854775807 then (if (((((((x5 ++ t211) ++ (⟨#[115, 116, 111, 114, 101, 32]⟩ : ByteArray)) ++ t213) ++ (⟨#[32]⟩ : ByteArray)) ++ ((rd_T45 x0 x6).f3)) ++ (⟨#[32]⟩ : ByteArray)) ++ t210).size + 2 ≤ 9223372036854775807 then (witheref6_lines.l0 k x0 x1 ((((((((x5 ++ t211) ++ (⟨#[115, 116, 111, 114, 101, 32]⟩ : ByteArray)) ++ t213) ++ (⟨#[32]⟩ : ByteArray)) ++ ((rd_T45 x0 x6).f3)) ++ (⟨#[32]⟩ : ByteArray)) ++ t210) ++ (⟨#[59, 10]⟩ : ByteArray)) (wrap64 (x6 + 1))) else (none)) else (none)) else (none)) else (none)) else (none)) else (none))) else (none)) else (none)) else (if ((rd_T45 x0 x6).f0) = 4 then (if x5.size + t211.size ≤ 9223372036854775807 then (if (x5 ++ t211).size + ((rd_T45 x0 x6).f2).size ≤ 9223372036854775807 then (if ((x5 ++ t211) ++ ((rd_T45 x0 x6).f2)).size + 7 ≤ 9223372036854775807 then ((witheref6_Mode.f ((rd_T45 x0 x6).f1)).bind fun t214 => (if (((x5 ++ t211) ++ ((rd_T45 x0 x6).f2)) ++ (⟨#[32, 61, 32, 97, 100, 100, 32]⟩ : ByteArray)).size + t214.size ≤ 9223372036854775807 then (if ((((x5 ++ t211) ++ ((rd_T45 x0 x6).f2)) ++ (⟨#[32, 61, 32, 97, 100, 100, 32]⟩ : ByteArray)) ++ t214).size + 1 ≤ 9223372036854775807 then (if (((((x5 ++ t211) ++ ((rd_T45 x0 x6).f2)) ++ (⟨#[32, 61, 32, 97, 100, 100, 32]⟩ : ByteArray)) ++ t214) ++ (⟨#[32]⟩ : ByteArray)).size + ((rd_T45 x0 x6).f3).size ≤ 9223372036854775807 then (if ((((((x5 ++ t211) ++ ((rd_T45 x0 x6).f2)) ++ (⟨#[32, 61, 32, 97, 100, 100, 32]⟩ : ByteArray)) ++ t214) ++ (⟨#[32]⟩ : ByteArray)) ++ ((rd_T45 x0 x6).f3)).size + 1 ≤ 9223372036854775807 then (if (((((((x5 ++ t211) ++ ((rd_T45 x0 x6).f2)) ++ (⟨#[32, 61, 32, 97, 100, 100, 32]⟩ : ByteArray)) ++ t214) ++ (⟨#[32]⟩ : ByteArray)) ++ ((rd_T45 x0 x6).f3)) ++ (⟨#[32]⟩ : ByteArray)).size + t210.size ≤ 9223372036854775807 then (if ((((((((x5 ++ t211) ++ ((rd_T45 x0 x6).f2)) ++ (⟨#[32, 61, 32, 97, 100, 100, 32]⟩ : ByteArray)) ++ t214) ++ (⟨#[32]⟩ : ByteArray)) ++ ((rd_T45 x0 x6).f3)) ++ (⟨#[32]⟩ : ByteArray)) ++ t210).size + 2 ≤ 9223372036854775807 then (witheref6_lines.l0 k x0 x1 (((((((((x5 ++ t211) ++ ((rd_T45 x0 x6).f2)) ++ (⟨#[32, 61, 32, 97, 100, 100, 32]⟩ : ByteArray)) ++ t214) ++ (⟨#[32]⟩ : ByteArray)) ++ ((rd_T45 x0 x6).f3)) ++ (⟨#[32]⟩ : ByteArray)) ++ t210) ++ (⟨#[59, 10]⟩ : ByteArray)) (wrap64 (x6 + 1))) else (none)) else (none)) else (none)) else (none)) else (none)) else (none))) else (none)) else (none)) else (none)) else (if ((rd_T45 x0 x6).f0) = 5 then (if x5.size + t211.size ≤ 9223372036854775807 then (if (x5 ++ t211).size + ((rd_T45 x0 x6).f2).size ≤ 9223372036854775807 then (if ((x5 ++ t211) ++ ((rd_T45 x0 x6).f2)).size + 7 ≤ 9223372036854775807 then ((witheref6_Mode.f ((rd_T45 x0 x6).f1)).bind fun t215 => (if (((x5 ++ t211) ++ ((rd_T45 x0 x6).f2)) ++ (⟨#[32, 61, 32, 99, 97, 115, 32]⟩ : ByteArray)).size + t215.size ≤ 9223372036854775807 then (if ((((x5 ++ t211) ++ ((rd_T45 x0 x6).f2)) ++ (⟨#[32, 61, 32, 99, 97, 115, 32]⟩ : ByteArray)) ++ t215).size + 1 ≤ 9223372036854775807 then (if (((((x5 ++ t211) ++ ((rd_T45 x0 x6).f2)) ++ (⟨#[32, 61, 32, 99, 97, 115, 32]⟩ : ByteArray)) ++ t215) ++ (⟨#[32]⟩ : ByteArray)).size + ((rd_T45 x0 x6).f3).size ≤ 9223372036854775807 then (if ((((((x5 ++ t211) ++ ((rd_T45 x0 x6).f2)) ++ (⟨#[32, 61, 32, 99, 97, 115, 32]⟩ : ByteArray)) ++ t215) ++ (⟨#[32]⟩ : ByteArray)) ++ ((rd_T45 x0 x6).f3)).size + 1 ≤ 9223372036854775807 then (if (((((((x5 ++ t211) ++ ((rd_T45 x0 x6).f2)) ++ (⟨#[32, 61, 32, 99, 97, 115, 32]⟩ : ByteArray)) ++ t215) ++ (⟨#[32]⟩ : ByteArray)) ++ ((rd_T45 x0 x6).f3)) ++ (⟨#[32]⟩ : ByteArray)).size + t210.size ≤ 9223372036854775807 then (if ((((((((x5 ++ t211) ++ ((rd_T45 x0 x6).f2)) ++ (⟨#[32, 61, 32, 99, 97, 115, 32]⟩ : ByteArray)) ++ t215) ++ (⟨#[32]⟩ : ByteArray)) ++ ((rd_T45 x0 x6).f3)) ++ (⟨#[32]⟩ : ByteArray)) ++ t210).size + 2 ≤ 9223372036854775807 then ((witheref6_kid.f k ((rd_T45 x0 x6).f4) 1).bind fun t216 => (if (((((((((x5 ++ t211) ++ ((rd_T45 x0 x6).f2)) ++ (⟨#[32, 61, 32, 99, 97, 115, 32]⟩ : ByteArray)) ++ t215) ++ (⟨#[32]⟩ : ByteArray)) ++ ((rd_T45 x0 x6).f3)) ++ (⟨#[32]⟩ : ByteArray)) ++ t210) ++ (⟨#[44, 32]⟩ : ByteArray)).size + t216.size ≤ 9223372036854775807 then (if ((((((((((x5 ++ t211) ++ ((rd_T45 x0 x6).f2)) ++ (⟨#[32, 61, 32, 99, 97, 115, 32]⟩ : ByteArray)) ++ t215) ++ (⟨#[32]⟩ : ByteArray)) ++ ((rd_T45 x0 x6).f3)) ++ (⟨#[32]⟩ : ByteArray)) ++ t210) ++ (⟨#[44, 32]⟩ : ByteArray)) ++ t216).size + 2 ≤ 9223372036854775807 then (witheref6_lines.l0 k x0 x1 (((((((((((x5 ++ t211) ++ ((rd_T45 x0 x6).f2)) ++ (⟨#[32, 61, 32, 99, 97, 115, 32]⟩ : ByteArray)) ++ t215) ++ (⟨#[32]⟩ : ByteArray)) ++ ((rd_T45 x0 x6).f3)) ++ (⟨#[32]⟩ : ByteArray)) ++ t210) ++ (⟨#[44, 32]⟩ : ByteArray)) ++ t216) ++ (⟨#[59, 10]⟩ : ByteArray)) (wrap64 (x6 + 1))) else (none)) else (none))) else (none)) else (none)) else (none)) else (none)) else (none)) else (none))) else (none)) else (none)) else (none)) else (if ((rd_T45 x0 x6).f0) = 6 then (if x5.size + t211.size ≤ 9223372036854775807 then (if (x5 ++ t211).size + 6 ≤ 9223372036854775807 then ((witheref6_Mode.f ((rd_T45 x0 x6).f1)).bind fun t217 => (if ((x5 ++ t211) ++ (⟨#[102, 101, 110, 99, 101, 32]⟩ : ByteArray)).size + t217.size ≤ 9223372036854775807 then (if (((x5 ++ t211) ++ (⟨#[102, 101, 110, 99, 101, 32]⟩ : ByteArray)) ++ t217).size + 2 ≤ 9223372036854775807 then (witheref6_lines.l0 k x0 x1 ((((x5 ++ t211) ++ (⟨#[102, 101, 110, 99, 101, 32]⟩ : ByteArray)) ++ t217) ++ (⟨#[59, 10]⟩ : ByteArray)) (wrap64 (x6 + 1))) else (none)) else (none))) else (none)) else (none)) else (if ((rd_T45 x0 x6).f0) = 7 then (if x5.size + t211.size ≤ 9223372036854775807 then (if (x5 ++ t211).size + 3 ≤ 9223372036854775807 then (if ((x5 ++ t211) ++ (⟨#[105, 102, 32]⟩ : ByteArray)).size + t210.size ≤ 9223372036854775807 then (if (((x5 ++ t211) ++ (⟨#[105, 102, 32]⟩ : ByteArray)) ++ t210).size + 3 ≤ 9223372036854775807 then ((witheref6_lines.f k ((rd_T45 x0 x6).f5) (wrap64 (x1 + 1))).bind fun t218 => (if ((((x5 ++ t211) ++ (⟨#[105, 102, 32]⟩ : ByteArray)) ++ t210) ++ (⟨#[32, 123, 10]⟩ : ByteArray)).size + t218.size ≤ 9223372036854775807 then (if (((rd_T45 x0 x6).f6).length : Int) > 0 then (if (((((x5 ++ t211) ++ (⟨#[105, 102, 32]⟩ : ByteArray)) ++ t210) ++ (⟨#[32, 123, 10]⟩ : ByteArray)) ++ t218).size + t211.size ≤ 9223372036854775807 then (if ((((((x5 ++ t211) ++ (⟨#[105, 102, 32]⟩ : ByteArray)) ++ t210) ++ (⟨#[32, 123, 10]⟩ : ByteArray)) ++ t218) ++ t211).size + 9 ≤ 9223372036854775807 then ((witheref6_lines.f k ((rd_T45 x0 x6).f6) (wrap64 (x1 + 1))).bind fun t219 => (if (((((((x5 ++ t211) ++ (⟨#[105, 102, 32]⟩ : ByteArray)) ++ t210) ++ (⟨#[32, 123, 10]⟩ : ByteArray)) ++ t218) ++ t211) ++ (⟨#[125, 32, 101, 108, 115, 101, 32, 123, 10]⟩ : ByteArray)).size + t219.size ≤ 9223372036854775807 then (if ((((((((x5 ++ t211) ++ (⟨#[105, 102, 32]⟩ : ByteArray)) ++ t210) ++ (⟨#[32, 123, 10]⟩ : ByteArray)) ++ t218) ++ t211) ++ (⟨#[125, 32, 101, 108, 115, 101, 32, 123, 10]⟩ : ByteArray)) ++ t219).size + t211.size ≤ 9223372036854775807 then (if (((((((((x5 ++ t211) ++ (⟨#[105, 102, 32]⟩ : ByteArray)) ++ t210) ++ (⟨#[32, 123, 10]⟩ : ByteArray)) ++ t218) ++ t211) ++ (⟨#[125, 32, 101, 108, 115, 101, 32, 123, 10]⟩ : ByteArray)) ++ t219) ++ t211).size + 2 ≤ 9223372036854775807 then (witheref6_lines.l0 k x0 x1 ((((((((((x5 ++ t211) ++ (⟨#[105, 102, 32]⟩ : ByteArray)) ++ t210) ++ (⟨#[32, 123, 10]⟩ : ByteArray)) ++ t218) ++ t211) ++ (⟨#[125, 32, 101, 108, 115, 101, 32, 123, 10]⟩ : ByteArray)) ++ t219) ++ t211) ++ (⟨#[125, 10]⟩ : ByteArray)) (wrap64 (x6 + 1))) else (none)) else (none)) else (none))) else (none)) else (none)) else (if (((((x5 ++ t211) ++ (⟨#[105, 102, 32]⟩ : ByteArray)) ++ t210) ++ (⟨#[32, 123, 10]⟩ : ByteArray)) ++ t218).size + t211.size ≤ 9223372036854775807 then (if ((((((x5 ++ t211) ++ (⟨#[105, 102, 32]⟩ : ByteArray)) ++ t210) ++ (⟨#[32, 123, 10]⟩ : ByteArray)) ++ t218) ++ t211).size + 2 ≤ 9223372036854775807 then (witheref6_lines.l0 k x0 x1 (((((((x5 ++ t211) ++ (⟨#[105, 102, 32]⟩ : ByteArray)) ++ t210) ++ (⟨#[32, 123, 10]⟩ : ByteArray)) ++ t218) ++ t211) ++ (⟨#[125, 10]⟩ : ByteArray)) (wrap64 (x6 + 1))) else (none)) else (none))) else (none))) else (none)) else (none)) else (none)) else (none)) else (witheref6_lines.l0 k x0 x1 x5 (wrap64 (x6 + 1)))))))))))) else (none)) else (some x5)
def witheref6_lines.f : Nat → List (S45) → Int → Option (ByteArray)
 | 0, _, _ => none
 | k + 1, l0, a1 => witheref6_lines.l0 k l0 a1 (⟨#[]⟩ : ByteArray) 0
end
theorem witheref6_lines.mono_l : ∀ k, (∀ y0 y1, LeO (witheref6_lines.f k y0 y1) (witheref6_lines.f (k + 1) y0 y1)) ∧ (∀ y0 y1 y2 y3, LeO (witheref6_lines.l0 k y0 y1 y2 y3) (witheref6_lines.l0 (k + 1) y0 y1 y2 y3))
 | 0 => ⟨fun _ _ r h => by simp [witheref6_lines.f] at h, fun _ _ _ _ r h => by simp [witheref6_lines.l0] at h⟩
 | k + 1 => by
  obtain ⟨ih0, ih1⟩ := witheref6_lines.mono_l k
  refine ⟨?_, ?_⟩
  ·intro y0 y1
   unfold witheref6_lines.f
   repeat' first
   | (with_reducible exact ih0 _ _)
   | (with_reducible exact ih1 _ _ _ _)
   | (with_reducible exact witheref6_in.mono _ _)
   | (with_reducible exact witheref6_kid.mono _ _ _)
   | (with_reducible exact LeO.refl _)
   | (with_reducible exact LeO.none _)
   | (with_reducible refine LeO.ite ?_ ?_)
   | (with_reducible refine LeO.bind ?_ (fun _ => ?_))
   | exact ih0 _ _
   | exact ih1 _ _ _ _
   | exact witheref6_in.mono _ _
   | exact witheref6_kid.mono _ _ _
   | exact LeO.none _
   | refine LeO.ite ?_ ?_
   | refine LeO.bind ?_ (fun _ => ?_)
  ·intro y0 y1 y2 y3
   unfold witheref6_lines.l0
   repeat' first
   | (with_reducible exact ih0 _ _)
   | (with_reducible exact ih1 _ _ _ _)
   | (with_reducible exact witheref6_in.mono _ _)
   | (with_reducible exact witheref6_kid.mono _ _ _)
   | (with_reducible exact LeO.refl _)
   | (with_reducible exact LeO.none _)
   | (with_reducible refine LeO.ite ?_ ?_)
   | (with_reducible refine LeO.bind ?_ (fun _ => ?_))
   | exact ih0 _ _
   | exact ih1 _ _ _ _
   | exact witheref6_in.mono _ _
   | exact witheref6_kid.mono _ _ _
   | exact LeO.none _
   | refine LeO.ite ?_ ?_
   | refine LeO.bind ?_ (fun _ => ?_)
theorem witheref6_lines.mono : ∀ a0 a1 k, LeO (witheref6_lines.f k a0 a1) (witheref6_lines.f (k + 1) a0 a1) := by
 intro a0 a1 k
 obtain ⟨ih0, ih1⟩ := witheref6_lines.mono_l k
 exact ih0 a0 a1
def witheref6_lines.T12 : Bool × List (List Nat × List Nat) := (true, [([], []), ([], []), ([0, 1], [0, 1]), ([], []), ([3], [3]), ([2, 4], [2, 4]), ([5], [5]), ([], []), ([7], [7]), ([8], [8]), ([6, 9], [6, 9]), ([10], [10]), ([], []), ([12], [12]), ([11, 13], [11, 13]), ([14], [14]), ([15, 9, 0, 1, 2, 3, 4, 5, 6, 7, 8, 9, 10, 11, 12, 13, 14, 15], [0, 15])])
def witheref6_lines.B12 : List Nat := [0, 0, 3, 0, 8, 31, 63, 0, 128, 384, 1023, 2047, 0, 4096, 16383, 32767, 65535]
theorem witheref6_lines.tab12 : rtab .any (opsOf Tryd.f22 12) = witheref6_lines.T12 := by kernel_rfl
theorem witheref6_lines.bits12 : waitsOk witheref6_lines.T12.2 witheref6_lines.B12 = true := by kernel_rfl
def witheref6_lines.T14 : Bool × List (List Nat × List Nat) := (true, [([], []), ([], []), ([0, 1], [0, 1]), ([2], [2]), ([], []), ([4], [4]), ([5], [5]), ([3, 6], [3, 6]), ([7], [7]), ([], []), ([9], [9]), ([8, 10], [8, 10]), ([11], [11]), ([], []), ([12, 13], [12, 13]), ([14], [14]), ([15, 6, 0, 1, 2, 3, 4, 5, 6, 7, 8, 9, 10, 11, 12, 13, 14, 15], [0, 15])])
def witheref6_lines.B14 : List Nat := [0, 0, 3, 7, 0, 16, 48, 127, 255, 0, 512, 2047, 4095, 0, 16383, 32767, 65535]
theorem witheref6_lines.tab14 : rtab .any (opsOf Tryd.f22 14) = witheref6_lines.T14 := by kernel_rfl
theorem witheref6_lines.bits14 : waitsOk witheref6_lines.T14.2 witheref6_lines.B14 = true := by kernel_rfl
def witheref6_lines.T16 : Bool × List (List Nat × List Nat) := (true, [([], []), ([], []), ([0, 1], [0, 1]), ([], []), ([3], [3]), ([2, 4], [2, 4]), ([5], [5]), ([], []), ([7], [7]), ([8], [8]), ([6, 9], [6, 9]), ([10], [10]), ([], []), ([12], [12]), ([11, 13], [11, 13]), ([14], [14]), ([], []), ([15, 16], [15, 16]), ([17], [17]), ([18, 9, 0, 1, 2, 3, 4, 5, 6, 7, 8, 9, 10, 11, 12, 13, 14, 15, 16, 17, 18], [0, 18])])
def witheref6_lines.B16 : List Nat := [0, 0, 3, 0, 8, 31, 63, 0, 128, 384, 1023, 2047, 0, 4096, 16383, 32767, 0, 131071, 262143, 524287]
theorem witheref6_lines.tab16 : rtab .any (opsOf Tryd.f22 16) = witheref6_lines.T16 := by kernel_rfl
theorem witheref6_lines.bits16 : waitsOk witheref6_lines.T16.2 witheref6_lines.B16 = true := by kernel_rfl
def witheref6_lines.T18 : Bool × List (List Nat × List Nat) := (true, [([], []), ([], []), ([0, 1], [0, 1]), ([], []), ([3], [3]), ([2, 4], [2, 4]), ([5], [5]), ([], []), ([7], [7]), ([8], [8]), ([6, 9], [6, 9]), ([10], [10]), ([], []), ([12], [12]), ([11, 13], [11, 13]), ([14], [14]), ([], []), ([15, 16], [15, 16]), ([17], [17]), ([], []), ([19], [19]), ([20, 9], [20]), ([18, 21], [18, 21]), ([22], [22]), ([23, 21, 0, 1, 2, 3, 4, 5, 6, 7, 8, 9, 10, 11, 12, 13, 14, 15, 16, 17, 18, 19, 20, 21, 22, 23], [0, 23])])
def witheref6_lines.B18 : List Nat := [0, 0, 3, 0, 8, 31, 63, 0, 128, 384, 1023, 2047, 0, 4096, 16383, 32767, 0, 131071, 262143, 0, 524288, 1573760, 4194303, 8388607, 16777215]
theorem witheref6_lines.tab18 : rtab .any (opsOf Tryd.f22 18) = witheref6_lines.T18 := by kernel_rfl
theorem witheref6_lines.bits18 : waitsOk witheref6_lines.T18.2 witheref6_lines.B18 = true := by kernel_rfl
set_option maxHeartbeats 8000000 in
set_option maxRecDepth 100000 in
theorem witheref6_lines.calls (k : Nat) : ∀ (A0 : Option Addr) (c0 : Nat) (l0 : List (S45)) (a1 : Int) (r : ByteArray) (w : World) (hr0 : Kd.C k45 w A0 l0.length l0) (hc0 : l0.length ≤ c0) (h : witheref6_lines.f k l0 a1 = some r),
 Calls Tryd.prog 22 #[.slice A0 l0.length c0, .int .i64 a1] w fun e w' => e = .returned (.string r) ∧ Below w.heap.size w w' := by
 induction k using Nat.strongRecOn with
 | _ k ih =>
 intro A0 c0 l0 a1 r w hr0 hc0 h
 cases k with
 | zero => exact absurd h (by simp [witheref6_lines.f])
 | succ k =>
 simp only [witheref6_lines.f] at h
 have hu45 := Tryd.underlying45
 have HR0 := Aside0.mk hr0
 have HC0 := Aside0.mk hc0
 clear hr0 hc0
 have HB := Aside0.mk (Below.refl w.heap.size w)
 have H : (witheref6_lines.l0 k l0 a1 (⟨#[]⟩ : ByteArray) 0) = some r := h
 clear h
 have H' := Aside0.mk H
 clear H
 go_enter Tryd.func22, Tryd.ntmps22
 go_wp2
 try go_simp
 go_loopg [5, 6] k (fun kq v5 v6 w' => ∃ (x5_1 : ByteArray) (x6_1 : Int), v5 = .string x5_1 ∧ v6 = .int .i64 x6_1 ∧ Aside0 (witheref6_lines.l0 kq l0 a1 x5_1 x6_1 = some r) ∧ Aside0 (kq ≤ k) ∧ Aside0 (Below w.heap.size w w'))
 case atStart => exact ⟨((⟨#[]⟩ : ByteArray)), (0), (by first | rfl | (simp; done) | (simp [*]; done)), (by first | rfl | (simp; done) | (simp [*]; done)), H', ⟨Nat.le_refl _⟩, ⟨by repeat (first | (with_reducible first | exact HB.out | apply below_alloc | apply pw_below_drewN | apply below_drew1) | exact HB.out)⟩⟩
 case round =>
  clear H'
  try clear c2
  try clear p2
  obtain ⟨x5_1, x6_1, rfl, rfl, HA, HK1, HB⟩ := hrel
  cases gk with
  | zero => exact absurd HA.out (by simp [witheref6_lines.l0])
  | succ k1 =>
   have H := HA.out
   clear HA
   simp only [witheref6_lines.l0] at H
   by_cases c3 : x6_1 < (l0.length : Int)
   ·rw [if_pos c3] at H
    have c3b0 : decide (x6_1 < (l0.length : Int)) = true := decide_eq_true c3
    clear c3
    by_cases c4 : 0 ≤ x6_1
    ·rw [if_pos c4] at H
     have c4b0 : decide (0 ≤ x6_1) = true := decide_eq_true c4
     clear c4
     replace H := Option.bind_eq_some_iff.mp H
     obtain ⟨t210, A50, H⟩ := H
     replace H : ((witheref6_in.f k1 a1).bind fun t211 => (if ((rd_T45 l0 x6_1).f0) = 1 then (if x5_1.size + t211.size ≤ 9223372036854775807 then (if (x5_1 ++ t211).size + ((rd_T45 l0 x6_1).f2).size ≤ 9223372036854775807 then (if ((x5_1 ++ t211) ++ ((rd_T45 l0 x6_1).f2)).size + 3 ≤ 9223372036854775807 then (if (((x5_1 ++ t211) ++ ((rd_T45 l0 x6_1).f2)) ++ (⟨#[32, 61, 32]⟩ : ByteArray)).size + t210.size ≤ 9223372036854775807 then (if ((((x5_1 ++ t211) ++ ((rd_T45 l0 x6_1).f2)) ++ (⟨#[32, 61, 32]⟩ : ByteArray)) ++ t210).size + 2 ≤ 9223372036854775807 then (witheref6_lines.l0 k1 l0 a1 (((((x5_1 ++ t211) ++ ((rd_T45 l0 x6_1).f2)) ++ (⟨#[32, 61, 32]⟩ : ByteArray)) ++ t210) ++ (⟨#[59, 10]⟩ : ByteArray)) (wrap64 (x6_1 + 1))) else (none)) else (none)) else (none)) else (none)) else (none)) else (if ((rd_T45 l0 x6_1).f0) = 2 then (if x5_1.size + t211.size ≤ 9223372036854775807 then (if (x5_1 ++ t211).size + ((rd_T45 l0 x6_1).f2).size ≤ 9223372036854775807 then (if ((x5_1 ++ t211) ++ ((rd_T45 l0 x6_1).f2)).size + 8 ≤ 9223372036854775807 then ((witheref6_Mode.f ((rd_T45 l0 x6_1).f1)).bind fun t212 => (if (((x5_1 ++ t211) ++ ((rd_T45 l0 x6_1).f2)) ++ (⟨#[32, 61, 32, 108, 111, 97, 100, 32]⟩ : ByteArray)).size + t212.size ≤ 9223372036854775807 then (if ((((x5_1 ++ t211) ++ ((rd_T45 l0 x6_1).f2)) ++ (⟨#[32, 61, 32, 108, 111, 97, 100, 32]⟩ : ByteArray)) ++ t212).size + 1 ≤ 9223372036854775807 then (if (((((x5_1 ++ t211) ++ ((rd_T45 l0 x6_1).f2)) ++ (⟨#[32, 61, 32, 108, 111, 97, 100, 32]⟩ : ByteArray)) ++ t212) ++ (⟨#[32]⟩ : ByteArray)).size + ((rd_T45 l0 x6_1).f3).size ≤ 9223372036854775807 then (if ((((((x5_1 ++ t211) ++ ((rd_T45 l0 x6_1).f2)) ++ (⟨#[32, 61, 32, 108, 111, 97, 100, 32]⟩ : ByteArray)) ++ t212) ++ (⟨#[32]⟩ : ByteArray)) ++ ((rd_T45 l0 x6_1).f3)).size + 2 ≤ 9223372036854775807 then (witheref6_lines.l0 k1 l0 a1 (((((((x5_1 ++ t211) ++ ((rd_T45 l0 x6_1).f2)) ++ (⟨#[32, 61, 32, 108, 111, 97, 100, 32]⟩ : ByteArray)) ++ t212) ++ (⟨#[32]⟩ : ByteArray)) ++ ((rd_T45 l0 x6_1).f3)) ++ (⟨#[59, 10]⟩ : ByteArray)) (wrap64 (x6_1 + 1))) else (none)) else (none)) else (none)) else (none))) else (none)) else (none)) else (none)) else (if ((rd_T45 l0 x6_1).f0) = 3 then (if x5_1.size + t211.size ≤ 9223372036854775807 then (if (x5_1 ++ t211).size + 6 ≤ 9223372036854775807 then ((witheref6_Mode.f ((rd_T45 l0 x6_1).f1)).bind fun t213 => (if ((x5_1 ++ t211) ++ (⟨#[115, 116, 111, 114, 101, 32]⟩ : ByteArray)).size + t213.size ≤ 9223372036854775807 then (if (((x5_1 ++ t211) ++ (⟨#[115, 116, 111, 114, 101, 32]⟩ : ByteArray)) ++ t213).size + 1 ≤ 9223372036854775807 then (if ((((x5_1 ++ t211) ++ (⟨#[115, 116, 111, 114, 101, 32]⟩ : ByteArray)) ++ t213) ++ (⟨#[32]⟩ : ByteArray)).size + ((rd_T45 l0 x6_1).f3).size ≤ 9223372036854775807 then (if (((((x5_1 ++ t211) ++ (⟨#[115, 116, 111, 114, 101, 32]⟩ : ByteArray)) ++ t213) ++ (⟨#[32]⟩ : ByteArray)) ++ ((rd_T45 l0 x6_1).f3)).size + 1 ≤ 9223372036854775807 then (if ((((((x5_1 ++ t211) ++ (⟨#[115, 116, 111, 114, 101, 32]⟩ : ByteArray)) ++ t213) ++ (⟨#[32]⟩ : ByteArray)) ++ ((rd_T45 l0 x6_1).f3)) ++ (⟨#[32]⟩ : ByteArray)).size + t210.size ≤ 9223372036854775807 then (if (((((((x5_1 ++ t211) ++ (⟨#[115, 116, 111, 114, 101, 32]⟩ : ByteArray)) ++ t213) ++ (⟨#[32]⟩ : ByteArray)) ++ ((rd_T45 l0 x6_1).f3)) ++ (⟨#[32]⟩ : ByteArray)) ++ t210).size + 2 ≤ 9223372036854775807 then (witheref6_lines.l0 k1 l0 a1 ((((((((x5_1 ++ t211) ++ (⟨#[115, 116, 111, 114, 101, 32]⟩ : ByteArray)) ++ t213) ++ (⟨#[32]⟩ : ByteArray)) ++ ((rd_T45 l0 x6_1).f3)) ++ (⟨#[32]⟩ : ByteArray)) ++ t210) ++ (⟨#[59, 10]⟩ : ByteArray)) (wrap64 (x6_1 + 1))) else (none)) else (none)) else (none)) else (none)) else (none)) else (none))) else (none)) else (none)) else (if ((rd_T45 l0 x6_1).f0) = 4 then (if x5_1.size + t211.size ≤ 9223372036854775807 then (if (x5_1 ++ t211).size + ((rd_T45 l0 x6_1).f2).size ≤ 9223372036854775807 then (if ((x5_1 ++ t211) ++ ((rd_T45 l0 x6_1).f2)).size + 7 ≤ 9223372036854775807 then ((witheref6_Mode.f ((rd_T45 l0 x6_1).f1)).bind fun t214 => (if (((x5_1 ++ t211) ++ ((rd_T45 l0 x6_1).f2)) ++ (⟨#[32, 61, 32, 97, 100, 100, 32]⟩ : ByteArray)).size + t214.size ≤ 9223372036854775807 then (if ((((x5_1 ++ t211) ++ ((rd_T45 l0 x6_1).f2)) ++ (⟨#[32, 61, 32, 97, 100, 100, 32]⟩ : ByteArray)) ++ t214).size + 1 ≤ 9223372036854775807 then (if (((((x5_1 ++ t211) ++ ((rd_T45 l0 x6_1).f2)) ++ (⟨#[32, 61, 32, 97, 100, 100, 32]⟩ : ByteArray)) ++ t214) ++ (⟨#[32]⟩ : ByteArray)).size + ((rd_T45 l0 x6_1).f3).size ≤ 9223372036854775807 then (if ((((((x5_1 ++ t211) ++ ((rd_T45 l0 x6_1).f2)) ++ (⟨#[32, 61, 32, 97, 100, 100, 32]⟩ : ByteArray)) ++ t214) ++ (⟨#[32]⟩ : ByteArray)) ++ ((rd_T45 l0 x6_1).f3)).size + 1 ≤ 9223372036854775807 then (if (((((((x5_1 ++ t211) ++ ((rd_T45 l0 x6_1).f2)) ++ (⟨#[32, 61, 32, 97, 100, 100, 32]⟩ : ByteArray)) ++ t214) ++ (⟨#[32]⟩ : ByteArray)) ++ ((rd_T45 l0 x6_1).f3)) ++ (⟨#[32]⟩ : ByteArray)).size + t210.size ≤ 9223372036854775807 then (if ((((((((x5_1 ++ t211) ++ ((rd_T45 l0 x6_1).f2)) ++ (⟨#[32, 61, 32, 97, 100, 100, 32]⟩ : ByteArray)) ++ t214) ++ (⟨#[32]⟩ : ByteArray)) ++ ((rd_T45 l0 x6_1).f3)) ++ (⟨#[32]⟩ : ByteArray)) ++ t210).size + 2 ≤ 9223372036854775807 then (witheref6_lines.l0 k1 l0 a1 (((((((((x5_1 ++ t211) ++ ((rd_T45 l0 x6_1).f2)) ++ (⟨#[32, 61, 32, 97, 100, 100, 32]⟩ : ByteArray)) ++ t214) ++ (⟨#[32]⟩ : ByteArray)) ++ ((rd_T45 l0 x6_1).f3)) ++ (⟨#[32]⟩ : ByteArray)) ++ t210) ++ (⟨#[59, 10]⟩ : ByteArray)) (wrap64 (x6_1 + 1))) else (none)) else (none)) else (none)) else (none)) else (none)) else (none))) else (none)) else (none)) else (none)) else (if ((rd_T45 l0 x6_1).f0) = 5 then (if x5_1.size + t211.size ≤ 9223372036854775807 then (if (x5_1 ++ t211).size + ((rd_T45 l0 x6_1).f2).size ≤ 9223372036854775807 then (if ((x5_1 ++ t211) ++ ((rd_T45 l0 x6_1).f2)).size + 7 ≤ 9223372036854775807 then ((witheref6_Mode.f ((rd_T45 l0 x6_1).f1)).bind fun t215 => (if (((x5_1 ++ t211) ++ ((rd_T45 l0 x6_1).f2)) ++ (⟨#[32, 61, 32, 99, 97, 115, 32]⟩ : ByteArray)).size + t215.size ≤ 9223372036854775807 then (if ((((x5_1 ++ t211) ++ ((rd_T45 l0 x6_1).f2)) ++ (⟨#[32, 61, 32, 99, 97, 115, 32]⟩ : ByteArray)) ++ t215).size + 1 ≤ 9223372036854775807 then (if (((((x5_1 ++ t211) ++ ((rd_T45 l0 x6_1).f2)) ++ (⟨#[32, 61, 32, 99, 97, 115, 32]⟩ : ByteArray)) ++ t215) ++ (⟨#[32]⟩ : ByteArray)).size + ((rd_T45 l0 x6_1).f3).size ≤ 9223372036854775807 then (if ((((((x5_1 ++ t211) ++ ((rd_T45 l0 x6_1).f2)) ++ (⟨#[32, 61, 32, 99, 97, 115, 32]⟩ : ByteArray)) ++ t215) ++ (⟨#[32]⟩ : ByteArray)) ++ ((rd_T45 l0 x6_1).f3)).size + 1 ≤ 9223372036854775807 then (if (((((((x5_1 ++ t211) ++ ((rd_T45 l0 x6_1).f2)) ++ (⟨#[32, 61, 32, 99, 97, 115, 32]⟩ : ByteArray)) ++ t215) ++ (⟨#[32]⟩ : ByteArray)) ++ ((rd_T45 l0 x6_1).f3)) ++ (⟨#[32]⟩ : ByteArray)).size + t210.size ≤ 9223372036854775807 then (if ((((((((x5_1 ++ t211) ++ ((rd_T45 l0 x6_1).f2)) ++ (⟨#[32, 61, 32, 99, 97, 115, 32]⟩ : ByteArray)) ++ t215) ++ (⟨#[32]⟩ : ByteArray)) ++ ((rd_T45 l0 x6_1).f3)) ++ (⟨#[32]⟩ : ByteArray)) ++ t210).size + 2 ≤ 9223372036854775807 then ((witheref6_kid.f k1 ((rd_T45 l0 x6_1).f4) 1).bind fun t216 => (if (((((((((x5_1 ++ t211) ++ ((rd_T45 l0 x6_1).f2)) ++ (⟨#[32, 61, 32, 99, 97, 115, 32]⟩ : ByteArray)) ++ t215) ++ (⟨#[32]⟩ : ByteArray)) ++ ((rd_T45 l0 x6_1).f3)) ++ (⟨#[32]⟩ : ByteArray)) ++ t210) ++ (⟨#[44, 32]⟩ : ByteArray)).size + t216.size ≤ 9223372036854775807 then (if ((((((((((x5_1 ++ t211) ++ ((rd_T45 l0 x6_1).f2)) ++ (⟨#[32, 61, 32, 99, 97, 115, 32]⟩ : ByteArray)) ++ t215) ++ (⟨#[32]⟩ : ByteArray)) ++ ((rd_T45 l0 x6_1).f3)) ++ (⟨#[32]⟩ : ByteArray)) ++ t210) ++ (⟨#[44, 32]⟩ : ByteArray)) ++ t216).size + 2 ≤ 9223372036854775807 then (witheref6_lines.l0 k1 l0 a1 (((((((((((x5_1 ++ t211) ++ ((rd_T45 l0 x6_1).f2)) ++ (⟨#[32, 61, 32, 99, 97, 115, 32]⟩ : ByteArray)) ++ t215) ++ (⟨#[32]⟩ : ByteArray)) ++ ((rd_T45 l0 x6_1).f3)) ++ (⟨#[32]⟩ : ByteArray)) ++ t210) ++ (⟨#[44, 32]⟩ : ByteArray)) ++ t216) ++ (⟨#[59, 10]⟩ : ByteArray)) (wrap64 (x6_1 + 1))) else (none)) else (none))) else (none)) else (none)) else (none)) else (none)) else (none)) else (none))) else (none)) else (none)) else (none)) else (if ((rd_T45 l0 x6_1).f0) = 6 then (if x5_1.size + t211.size ≤ 9223372036854775807 then (if (x5_1 ++ t211).size + 6 ≤ 9223372036854775807 then ((witheref6_Mode.f ((rd_T45 l0 x6_1).f1)).bind fun t217 => (if ((x5_1 ++ t211) ++ (⟨#[102, 101, 110, 99, 101, 32]⟩ : ByteArray)).size + t217.size ≤ 9223372036854775807 then (if (((x5_1 ++ t211) ++ (⟨#[102, 101, 110, 99, 101, 32]⟩ : ByteArray)) ++ t217).size + 2 ≤ 9223372036854775807 then (witheref6_lines.l0 k1 l0 a1 ((((x5_1 ++ t211) ++ (⟨#[102, 101, 110, 99, 101, 32]⟩ : ByteArray)) ++ t217) ++ (⟨#[59, 10]⟩ : ByteArray)) (wrap64 (x6_1 + 1))) else (none)) else (none))) else (none)) else (none)) else (if ((rd_T45 l0 x6_1).f0) = 7 then (if x5_1.size + t211.size ≤ 9223372036854775807 then (if (x5_1 ++ t211).size + 3 ≤ 9223372036854775807 then (if ((x5_1 ++ t211) ++ (⟨#[105, 102, 32]⟩ : ByteArray)).size + t210.size ≤ 9223372036854775807 then (if (((x5_1 ++ t211) ++ (⟨#[105, 102, 32]⟩ : ByteArray)) ++ t210).size + 3 ≤ 9223372036854775807 then ((witheref6_lines.f k1 ((rd_T45 l0 x6_1).f5) (wrap64 (a1 + 1))).bind fun t218 => (if ((((x5_1 ++ t211) ++ (⟨#[105, 102, 32]⟩ : ByteArray)) ++ t210) ++ (⟨#[32, 123, 10]⟩ : ByteArray)).size + t218.size ≤ 9223372036854775807 then (if (((rd_T45 l0 x6_1).f6).length : Int) > 0 then (if (((((x5_1 ++ t211) ++ (⟨#[105, 102, 32]⟩ : ByteArray)) ++ t210) ++ (⟨#[32, 123, 10]⟩ : ByteArray)) ++ t218).size + t211.size ≤ 9223372036854775807 then (if ((((((x5_1 ++ t211) ++ (⟨#[105, 102, 32]⟩ : ByteArray)) ++ t210) ++ (⟨#[32, 123, 10]⟩ : ByteArray)) ++ t218) ++ t211).size + 9 ≤ 9223372036854775807 then ((witheref6_lines.f k1 ((rd_T45 l0 x6_1).f6) (wrap64 (a1 + 1))).bind fun t219 => (if (((((((x5_1 ++ t211) ++ (⟨#[105, 102, 32]⟩ : ByteArray)) ++ t210) ++ (⟨#[32, 123, 10]⟩ : ByteArray)) ++ t218) ++ t211) ++ (⟨#[125, 32, 101, 108, 115, 101, 32, 123, 10]⟩ : ByteArray)).size + t219.size ≤ 9223372036854775807 then (if ((((((((x5_1 ++ t211) ++ (⟨#[105, 102, 32]⟩ : ByteArray)) ++ t210) ++ (⟨#[32, 123, 10]⟩ : ByteArray)) ++ t218) ++ t211) ++ (⟨#[125, 32, 101, 108, 115, 101, 32, 123, 10]⟩ : ByteArray)) ++ t219).size + t211.size ≤ 9223372036854775807 then (if (((((((((x5_1 ++ t211) ++ (⟨#[105, 102, 32]⟩ : ByteArray)) ++ t210) ++ (⟨#[32, 123, 10]⟩ : ByteArray)) ++ t218) ++ t211) ++ (⟨#[125, 32, 101, 108, 115, 101, 32, 123, 10]⟩ : ByteArray)) ++ t219) ++ t211).size + 2 ≤ 9223372036854775807 then (witheref6_lines.l0 k1 l0 a1 ((((((((((x5_1 ++ t211) ++ (⟨#[105, 102, 32]⟩ : ByteArray)) ++ t210) ++ (⟨#[32, 123, 10]⟩ : ByteArray)) ++ t218) ++ t211) ++ (⟨#[125, 32, 101, 108, 115, 101, 32, 123, 10]⟩ : ByteArray)) ++ t219) ++ t211) ++ (⟨#[125, 10]⟩ : ByteArray)) (wrap64 (x6_1 + 1))) else (none)) else (none)) else (none))) else (none)) else (none)) else (if (((((x5_1 ++ t211) ++ (⟨#[105, 102, 32]⟩ : ByteArray)) ++ t210) ++ (⟨#[32, 123, 10]⟩ : ByteArray)) ++ t218).size + t211.size ≤ 9223372036854775807 then (if ((((((x5_1 ++ t211) ++ (⟨#[105, 102, 32]⟩ : ByteArray)) ++ t210) ++ (⟨#[32, 123, 10]⟩ : ByteArray)) ++ t218) ++ t211).size + 2 ≤ 9223372036854775807 then (witheref6_lines.l0 k1 l0 a1 (((((((x5_1 ++ t211) ++ (⟨#[105, 102, 32]⟩ : ByteArray)) ++ t210) ++ (⟨#[32, 123, 10]⟩ : ByteArray)) ++ t218) ++ t211) ++ (⟨#[125, 10]⟩ : ByteArray)) (wrap64 (x6_1 + 1))) else (none)) else (none))) else (none))) else (none)) else (none)) else (none)) else (none)) else (witheref6_lines.l0 k1 l0 a1 x5_1 (wrap64 (x6_1 + 1))))))))))) = some r := H
     have A5 := Aside0.mk A50
     clear A50
     replace H := Option.bind_eq_some_iff.mp H
     obtain ⟨t211, A60, H⟩ := H
     replace H : (if ((rd_T45 l0 x6_1).f0) = 1 then (if x5_1.size + t211.size ≤ 9223372036854775807 then (if (x5_1 ++ t211).size + ((rd_T45 l0 x6_1).f2).size ≤ 9223372036854775807 then (if ((x5_1 ++ t211) ++ ((rd_T45 l0 x6_1).f2)).size + 3 ≤ 9223372036854775807 then (if (((x5_1 ++ t211) ++ ((rd_T45 l0 x6_1).f2)) ++ (⟨#[32, 61, 32]⟩ : ByteArray)).size + t210.size ≤ 9223372036854775807 then (if ((((x5_1 ++ t211) ++ ((rd_T45 l0 x6_1).f2)) ++ (⟨#[32, 61, 32]⟩ : ByteArray)) ++ t210).size + 2 ≤ 9223372036854775807 then (witheref6_lines.l0 k1 l0 a1 (((((x5_1 ++ t211) ++ ((rd_T45 l0 x6_1).f2)) ++ (⟨#[32, 61, 32]⟩ : ByteArray)) ++ t210) ++ (⟨#[59, 10]⟩ : ByteArray)) (wrap64 (x6_1 + 1))) else (none)) else (none)) else (none)) else (none)) else (none)) else (if ((rd_T45 l0 x6_1).f0) = 2 then (if x5_1.size + t211.size ≤ 9223372036854775807 then (if (x5_1 ++ t211).size + ((rd_T45 l0 x6_1).f2).size ≤ 9223372036854775807 then (if ((x5_1 ++ t211) ++ ((rd_T45 l0 x6_1).f2)).size + 8 ≤ 9223372036854775807 then ((witheref6_Mode.f ((rd_T45 l0 x6_1).f1)).bind fun t212 => (if (((x5_1 ++ t211) ++ ((rd_T45 l0 x6_1).f2)) ++ (⟨#[32, 61, 32, 108, 111, 97, 100, 32]⟩ : ByteArray)).size + t212.size ≤ 9223372036854775807 then (if ((((x5_1 ++ t211) ++ ((rd_T45 l0 x6_1).f2)) ++ (⟨#[32, 61, 32, 108, 111, 97, 100, 32]⟩ : ByteArray)) ++ t212).size + 1 ≤ 9223372036854775807 then (if (((((x5_1 ++ t211) ++ ((rd_T45 l0 x6_1).f2)) ++ (⟨#[32, 61, 32, 108, 111, 97, 100, 32]⟩ : ByteArray)) ++ t212) ++ (⟨#[32]⟩ : ByteArray)).size + ((rd_T45 l0 x6_1).f3).size ≤ 9223372036854775807 then (if ((((((x5_1 ++ t211) ++ ((rd_T45 l0 x6_1).f2)) ++ (⟨#[32, 61, 32, 108, 111, 97, 100, 32]⟩ : ByteArray)) ++ t212) ++ (⟨#[32]⟩ : ByteArray)) ++ ((rd_T45 l0 x6_1).f3)).size + 2 ≤ 9223372036854775807 then (witheref6_lines.l0 k1 l0 a1 (((((((x5_1 ++ t211) ++ ((rd_T45 l0 x6_1).f2)) ++ (⟨#[32, 61, 32, 108, 111, 97, 100, 32]⟩ : ByteArray)) ++ t212) ++ (⟨#[32]⟩ : ByteArray)) ++ ((rd_T45 l0 x6_1).f3)) ++ (⟨#[59, 10]⟩ : ByteArray)) (wrap64 (x6_1 + 1))) else (none)) else (none)) else (none)) else (none))) else (none)) else (none)) else (none)) else (if ((rd_T45 l0 x6_1).f0) = 3 then (if x5_1.size + t211.size ≤ 9223372036854775807 then (if (x5_1 ++ t211).size + 6 ≤ 9223372036854775807 then ((witheref6_Mode.f ((rd_T45 l0 x6_1).f1)).bind fun t213 => (if ((x5_1 ++ t211) ++ (⟨#[115, 116, 111, 114, 101, 32]⟩ : ByteArray)).size + t213.size ≤ 9223372036854775807 then (if (((x5_1 ++ t211) ++ (⟨#[115, 116, 111, 114, 101, 32]⟩ : ByteArray)) ++ t213).size + 1 ≤ 9223372036854775807 then (if ((((x5_1 ++ t211) ++ (⟨#[115, 116, 111, 114, 101, 32]⟩ : ByteArray)) ++ t213) ++ (⟨#[32]⟩ : ByteArray)).size + ((rd_T45 l0 x6_1).f3).size ≤ 9223372036854775807 then (if (((((x5_1 ++ t211) ++ (⟨#[115, 116, 111, 114, 101, 32]⟩ : ByteArray)) ++ t213) ++ (⟨#[32]⟩ : ByteArray)) ++ ((rd_T45 l0 x6_1).f3)).size + 1 ≤ 9223372036854775807 then (if ((((((x5_1 ++ t211) ++ (⟨#[115, 116, 111, 114, 101, 32]⟩ : ByteArray)) ++ t213) ++ (⟨#[32]⟩ : ByteArray)) ++ ((rd_T45 l0 x6_1).f3)) ++ (⟨#[32]⟩ : ByteArray)).size + t210.size ≤ 9223372036854775807 then (if (((((((x5_1 ++ t211) ++ (⟨#[115, 116, 111, 114, 101, 32]⟩ : ByteArray)) ++ t213) ++ (⟨#[32]⟩ : ByteArray)) ++ ((rd_T45 l0 x6_1).f3)) ++ (⟨#[32]⟩ : ByteArray)) ++ t210).size + 2 ≤ 9223372036854775807 then (witheref6_lines.l0 k1 l0 a1 ((((((((x5_1 ++ t211) ++ (⟨#[115, 116, 111, 114, 101, 32]⟩ : ByteArray)) ++ t213) ++ (⟨#[32]⟩ : ByteArray)) ++ ((rd_T45 l0 x6_1).f3)) ++ (⟨#[32]⟩ : ByteArray)) ++ t210) ++ (⟨#[59, 10]⟩ : ByteArray)) (wrap64 (x6_1 + 1))) else (none)) else (none)) else (none)) else (none)) else (none)) else (none))) else (none)) else (none)) else (if ((rd_T45 l0 x6_1).f0) = 4 then (if x5_1.size + t211.size ≤ 9223372036854775807 then (if (x5_1 ++ t211).size + ((rd_T45 l0 x6_1).f2).size ≤ 9223372036854775807 then (if ((x5_1 ++ t211) ++ ((rd_T45 l0 x6_1).f2)).size + 7 ≤ 9223372036854775807 then ((witheref6_Mode.f ((rd_T45 l0 x6_1).f1)).bind fun t214 => (if (((x5_1 ++ t211) ++ ((rd_T45 l0 x6_1).f2)) ++ (⟨#[32, 61, 32, 97, 100, 100, 32]⟩ : ByteArray)).size + t214.size ≤ 9223372036854775807 then (if ((((x5_1 ++ t211) ++ ((rd_T45 l0 x6_1).f2)) ++ (⟨#[32, 61, 32, 97, 100, 100, 32]⟩ : ByteArray)) ++ t214).size + 1 ≤ 9223372036854775807 then (if (((((x5_1 ++ t211) ++ ((rd_T45 l0 x6_1).f2)) ++ (⟨#[32, 61, 32, 97, 100, 100, 32]⟩ : ByteArray)) ++ t214) ++ (⟨#[32]⟩ : ByteArray)).size + ((rd_T45 l0 x6_1).f3).size ≤ 9223372036854775807 then (if ((((((x5_1 ++ t211) ++ ((rd_T45 l0 x6_1).f2)) ++ (⟨#[32, 61, 32, 97, 100, 100, 32]⟩ : ByteArray)) ++ t214) ++ (⟨#[32]⟩ : ByteArray)) ++ ((rd_T45 l0 x6_1).f3)).size + 1 ≤ 9223372036854775807 then (if (((((((x5_1 ++ t211) ++ ((rd_T45 l0 x6_1).f2)) ++ (⟨#[32, 61, 32, 97, 100, 100, 32]⟩ : ByteArray)) ++ t214) ++ (⟨#[32]⟩ : ByteArray)) ++ ((rd_T45 l0 x6_1).f3)) ++ (⟨#[32]⟩ : ByteArray)).size + t210.size ≤ 9223372036854775807 then (if ((((((((x5_1 ++ t211) ++ ((rd_T45 l0 x6_1).f2)) ++ (⟨#[32, 61, 32, 97, 100, 100, 32]⟩ : ByteArray)) ++ t214) ++ (⟨#[32]⟩ : ByteArray)) ++ ((rd_T45 l0 x6_1).f3)) ++ (⟨#[32]⟩ : ByteArray)) ++ t210).size + 2 ≤ 9223372036854775807 then (witheref6_lines.l0 k1 l0 a1 (((((((((x5_1 ++ t211) ++ ((rd_T45 l0 x6_1).f2)) ++ (⟨#[32, 61, 32, 97, 100, 100, 32]⟩ : ByteArray)) ++ t214) ++ (⟨#[32]⟩ : ByteArray)) ++ ((rd_T45 l0 x6_1).f3)) ++ (⟨#[32]⟩ : ByteArray)) ++ t210) ++ (⟨#[59, 10]⟩ : ByteArray)) (wrap64 (x6_1 + 1))) else (none)) else (none)) else (none)) else (none)) else (none)) else (none))) else (none)) else (none)) else (none)) else (if ((rd_T45 l0 x6_1).f0) = 5 then (if x5_1.size + t211.size ≤ 9223372036854775807 then (if (x5_1 ++ t211).size + ((rd_T45 l0 x6_1).f2).size ≤ 9223372036854775807 then (if ((x5_1 ++ t211) ++ ((rd_T45 l0 x6_1).f2)).size + 7 ≤ 9223372036854775807 then ((witheref6_Mode.f ((rd_T45 l0 x6_1).f1)).bind fun t215 => (if (((x5_1 ++ t211) ++ ((rd_T45 l0 x6_1).f2)) ++ (⟨#[32, 61, 32, 99, 97, 115, 32]⟩ : ByteArray)).size + t215.size ≤ 9223372036854775807 then (if ((((x5_1 ++ t211) ++ ((rd_T45 l0 x6_1).f2)) ++ (⟨#[32, 61, 32, 99, 97, 115, 32]⟩ : ByteArray)) ++ t215).size + 1 ≤ 9223372036854775807 then (if (((((x5_1 ++ t211) ++ ((rd_T45 l0 x6_1).f2)) ++ (⟨#[32, 61, 32, 99, 97, 115, 32]⟩ : ByteArray)) ++ t215) ++ (⟨#[32]⟩ : ByteArray)).size + ((rd_T45 l0 x6_1).f3).size ≤ 9223372036854775807 then (if ((((((x5_1 ++ t211) ++ ((rd_T45 l0 x6_1).f2)) ++ (⟨#[32, 61, 32, 99, 97, 115, 32]⟩ : ByteArray)) ++ t215) ++ (⟨#[32]⟩ : ByteArray)) ++ ((rd_T45 l0 x6_1).f3)).size + 1 ≤ 9223372036854775807 then (if (((((((x5_1 ++ t211) ++ ((rd_T45 l0 x6_1).f2)) ++ (⟨#[32, 61, 32, 99, 97, 115, 32]⟩ : ByteArray)) ++ t215) ++ (⟨#[32]⟩ : ByteArray)) ++ ((rd_T45 l0 x6_1).f3)) ++ (⟨#[32]⟩ : ByteArray)).size + t210.size ≤ 9223372036854775807 then (if ((((((((x5_1 ++ t211) ++ ((rd_T45 l0 x6_1).f2)) ++ (⟨#[32, 61, 32, 99, 97, 115, 32]⟩ : ByteArray)) ++ t215) ++ (⟨#[32]⟩ : ByteArray)) ++ ((rd_T45 l0 x6_1).f3)) ++ (⟨#[32]⟩ : ByteArray)) ++ t210).size + 2 ≤ 9223372036854775807 then ((witheref6_kid.f k1 ((rd_T45 l0 x6_1).f4) 1).bind fun t216 => (if (((((((((x5_1 ++ t211) ++ ((rd_T45 l0 x6_1).f2)) ++ (⟨#[32, 61, 32, 99, 97, 115, 32]⟩ : ByteArray)) ++ t215) ++ (⟨#[32]⟩ : ByteArray)) ++ ((rd_T45 l0 x6_1).f3)) ++ (⟨#[32]⟩ : ByteArray)) ++ t210) ++ (⟨#[44, 32]⟩ : ByteArray)).size + t216.size ≤ 9223372036854775807 then (if ((((((((((x5_1 ++ t211) ++ ((rd_T45 l0 x6_1).f2)) ++ (⟨#[32, 61, 32, 99, 97, 115, 32]⟩ : ByteArray)) ++ t215) ++ (⟨#[32]⟩ : ByteArray)) ++ ((rd_T45 l0 x6_1).f3)) ++ (⟨#[32]⟩ : ByteArray)) ++ t210) ++ (⟨#[44, 32]⟩ : ByteArray)) ++ t216).size + 2 ≤ 9223372036854775807 then (witheref6_lines.l0 k1 l0 a1 (((((((((((x5_1 ++ t211) ++ ((rd_T45 l0 x6_1).f2)) ++ (⟨#[32, 61, 32, 99, 97, 115, 32]⟩ : ByteArray)) ++ t215) ++ (⟨#[32]⟩ : ByteArray)) ++ ((rd_T45 l0 x6_1).f3)) ++ (⟨#[32]⟩ : ByteArray)) ++ t210) ++ (⟨#[44, 32]⟩ : ByteArray)) ++ t216) ++ (⟨#[59, 10]⟩ : ByteArray)) (wrap64 (x6_1 + 1))) else (none)) else (none))) else (none)) else (none)) else (none)) else (none)) else (none)) else (none))) else (none)) else (none)) else (none)) else (if ((rd_T45 l0 x6_1).f0) = 6 then (if x5_1.size + t211.size ≤ 9223372036854775807 then (if (x5_1 ++ t211).size + 6 ≤ 9223372036854775807 then ((witheref6_Mode.f ((rd_T45 l0 x6_1).f1)).bind fun t217 => (if ((x5_1 ++ t211) ++ (⟨#[102, 101, 110, 99, 101, 32]⟩ : ByteArray)).size + t217.size ≤ 9223372036854775807 then (if (((x5_1 ++ t211) ++ (⟨#[102, 101, 110, 99, 101, 32]⟩ : ByteArray)) ++ t217).size + 2 ≤ 9223372036854775807 then (witheref6_lines.l0 k1 l0 a1 ((((x5_1 ++ t211) ++ (⟨#[102, 101, 110, 99, 101, 32]⟩ : ByteArray)) ++ t217) ++ (⟨#[59, 10]⟩ : ByteArray)) (wrap64 (x6_1 + 1))) else (none)) else (none))) else (none)) else (none)) else (if ((rd_T45 l0 x6_1).f0) = 7 then (if x5_1.size + t211.size ≤ 9223372036854775807 then (if (x5_1 ++ t211).size + 3 ≤ 9223372036854775807 then (if ((x5_1 ++ t211) ++ (⟨#[105, 102, 32]⟩ : ByteArray)).size + t210.size ≤ 9223372036854775807 then (if (((x5_1 ++ t211) ++ (⟨#[105, 102, 32]⟩ : ByteArray)) ++ t210).size + 3 ≤ 9223372036854775807 then ((witheref6_lines.f k1 ((rd_T45 l0 x6_1).f5) (wrap64 (a1 + 1))).bind fun t218 => (if ((((x5_1 ++ t211) ++ (⟨#[105, 102, 32]⟩ : ByteArray)) ++ t210) ++ (⟨#[32, 123, 10]⟩ : ByteArray)).size + t218.size ≤ 9223372036854775807 then (if (((rd_T45 l0 x6_1).f6).length : Int) > 0 then (if (((((x5_1 ++ t211) ++ (⟨#[105, 102, 32]⟩ : ByteArray)) ++ t210) ++ (⟨#[32, 123, 10]⟩ : ByteArray)) ++ t218).size + t211.size ≤ 9223372036854775807 then (if ((((((x5_1 ++ t211) ++ (⟨#[105, 102, 32]⟩ : ByteArray)) ++ t210) ++ (⟨#[32, 123, 10]⟩ : ByteArray)) ++ t218) ++ t211).size + 9 ≤ 9223372036854775807 then ((witheref6_lines.f k1 ((rd_T45 l0 x6_1).f6) (wrap64 (a1 + 1))).bind fun t219 => (if (((((((x5_1 ++ t211) ++ (⟨#[105, 102, 32]⟩ : ByteArray)) ++ t210) ++ (⟨#[32, 123, 10]⟩ : ByteArray)) ++ t218) ++ t211) ++ (⟨#[125, 32, 101, 108, 115, 101, 32, 123, 10]⟩ : ByteArray)).size + t219.size ≤ 9223372036854775807 then (if ((((((((x5_1 ++ t211) ++ (⟨#[105, 102, 32]⟩ : ByteArray)) ++ t210) ++ (⟨#[32, 123, 10]⟩ : ByteArray)) ++ t218) ++ t211) ++ (⟨#[125, 32, 101, 108, 115, 101, 32, 123, 10]⟩ : ByteArray)) ++ t219).size + t211.size ≤ 9223372036854775807 then (if (((((((((x5_1 ++ t211) ++ (⟨#[105, 102, 32]⟩ : ByteArray)) ++ t210) ++ (⟨#[32, 123, 10]⟩ : ByteArray)) ++ t218) ++ t211) ++ (⟨#[125, 32, 101, 108, 115, 101, 32, 123, 10]⟩ : ByteArray)) ++ t219) ++ t211).size + 2 ≤ 9223372036854775807 then (witheref6_lines.l0 k1 l0 a1 ((((((((((x5_1 ++ t211) ++ (⟨#[105, 102, 32]⟩ : ByteArray)) ++ t210) ++ (⟨#[32, 123, 10]⟩ : ByteArray)) ++ t218) ++ t211) ++ (⟨#[125, 32, 101, 108, 115, 101, 32, 123, 10]⟩ : ByteArray)) ++ t219) ++ t211) ++ (⟨#[125, 10]⟩ : ByteArray)) (wrap64 (x6_1 + 1))) else (none)) else (none)) else (none))) else (none)) else (none)) else (if (((((x5_1 ++ t211) ++ (⟨#[105, 102, 32]⟩ : ByteArray)) ++ t210) ++ (⟨#[32, 123, 10]⟩ : ByteArray)) ++ t218).size + t211.size ≤ 9223372036854775807 then (if ((((((x5_1 ++ t211) ++ (⟨#[105, 102, 32]⟩ : ByteArray)) ++ t210) ++ (⟨#[32, 123, 10]⟩ : ByteArray)) ++ t218) ++ t211).size + 2 ≤ 9223372036854775807 then (witheref6_lines.l0 k1 l0 a1 (((((((x5_1 ++ t211) ++ (⟨#[105, 102, 32]⟩ : ByteArray)) ++ t210) ++ (⟨#[32, 123, 10]⟩ : ByteArray)) ++ t218) ++ t211) ++ (⟨#[125, 10]⟩ : ByteArray)) (wrap64 (x6_1 + 1))) else (none)) else (none))) else (none))) else (none)) else (none)) else (none)) else (none)) else (witheref6_lines.l0 k1 l0 a1 x5_1 (wrap64 (x6_1 + 1)))))))))) = some r := H
     have A6 := Aside0.mk A60
     clear A60
     by_cases c7 : ((rd_T45 l0 x6_1).f0) = 1
     ·rw [if_pos c7] at H
      have c7b0 : (((rd_T45 l0 x6_1).f0) == 1) = true := beq_iff_eq.mpr c7
      have c7b1 : (((rd_T45 l0 x6_1).f0) != 1) = false := bne_eq_false_iff_eq.mpr c7
      clear c7
      by_cases c8 : x5_1.size + t211.size ≤ 9223372036854775807
      ·rw [if_pos c8] at H
       have c8b0 := eq_true c8
       have c8b1 : decide (x5_1.size + t211.size ≤ 9223372036854775807) = true := decide_eq_true c8
       try have c8b2 : (9223372036854775807 < x5_1.size + t211.size) = False := eq_false (Nat.not_lt.2 c8)
       by_cases c9 : (x5_1 ++ t211).size + ((rd_T45 l0 x6_1).f2).size ≤ 9223372036854775807
       ·rw [if_pos c9] at H
        have c9b0 := eq_true c9
        have c9b1 : decide ((x5_1 ++ t211).size + ((rd_T45 l0 x6_1).f2).size ≤ 9223372036854775807) = true := decide_eq_true c9
        try (have c9b1s := c9b1; simp only [ByteArray.size_append] at c9b1s)
        try have c9b2 : (9223372036854775807 < (x5_1 ++ t211).size + ((rd_T45 l0 x6_1).f2).size) = False := eq_false (Nat.not_lt.2 c9)
        try (have c9b2s := c9b2; simp only [ByteArray.size_append] at c9b2s)
        by_cases c10 : ((x5_1 ++ t211) ++ ((rd_T45 l0 x6_1).f2)).size + 3 ≤ 9223372036854775807
        ·rw [if_pos c10] at H
         have c10b0 := eq_true c10
         have c10b1 : decide (((x5_1 ++ t211) ++ ((rd_T45 l0 x6_1).f2)).size + 3 ≤ 9223372036854775807) = true := decide_eq_true c10
         try (have c10b1s := c10b1; simp only [ByteArray.size_append] at c10b1s)
         try have c10b2 : (9223372036854775807 < ((x5_1 ++ t211) ++ ((rd_T45 l0 x6_1).f2)).size + 3) = False := eq_false (Nat.not_lt.2 c10)
         try (have c10b2s := c10b2; simp only [ByteArray.size_append] at c10b2s)
         by_cases c11 : (((x5_1 ++ t211) ++ ((rd_T45 l0 x6_1).f2)) ++ (⟨#[32, 61, 32]⟩ : ByteArray)).size + t210.size ≤ 9223372036854775807
         ·rw [if_pos c11] at H
          have c11b0 := eq_true c11
          have c11b1 : decide ((((x5_1 ++ t211) ++ ((rd_T45 l0 x6_1).f2)) ++ (⟨#[32, 61, 32]⟩ : ByteArray)).size + t210.size ≤ 9223372036854775807) = true := decide_eq_true c11
          try (have c11b1s := c11b1; simp only [ByteArray.size_append, show (⟨#[32, 61, 32]⟩ : ByteArray).size = 3 from rfl] at c11b1s)
          try have c11b2 : (9223372036854775807 < (((x5_1 ++ t211) ++ ((rd_T45 l0 x6_1).f2)) ++ (⟨#[32, 61, 32]⟩ : ByteArray)).size + t210.size) = False := eq_false (Nat.not_lt.2 c11)
          try (have c11b2s := c11b2; simp only [ByteArray.size_append, show (⟨#[32, 61, 32]⟩ : ByteArray).size = 3 from rfl] at c11b2s)
          by_cases c12 : ((((x5_1 ++ t211) ++ ((rd_T45 l0 x6_1).f2)) ++ (⟨#[32, 61, 32]⟩ : ByteArray)) ++ t210).size + 2 ≤ 9223372036854775807
          ·rw [if_pos c12] at H
           have c12b0 := eq_true c12
           have c12b1 : decide (((((x5_1 ++ t211) ++ ((rd_T45 l0 x6_1).f2)) ++ (⟨#[32, 61, 32]⟩ : ByteArray)) ++ t210).size + 2 ≤ 9223372036854775807) = true := decide_eq_true c12
           try (have c12b1s := c12b1; simp only [ByteArray.size_append, show (⟨#[32, 61, 32]⟩ : ByteArray).size = 3 from rfl] at c12b1s)
           try have c12b2 : (9223372036854775807 < ((((x5_1 ++ t211) ++ ((rd_T45 l0 x6_1).f2)) ++ (⟨#[32, 61, 32]⟩ : ByteArray)) ++ t210).size + 2) = False := eq_false (Nat.not_lt.2 c12)
           try (have c12b2s := c12b2; simp only [ByteArray.size_append, show (⟨#[32, 61, 32]⟩ : ByteArray).size = 3 from rfl] at c12b2s)
           have H' := Aside0.mk H
           clear H
           have p208 : 0 ≤ (x6_1 : Int) := of_decide_eq_true (by first | (with_reducible assumption) | assumption)
           have q208 : x6_1 < (l0.length : Int) := of_decide_eq_true (by first | (with_reducible assumption) | assumption)
           obtain ⟨ad208, A208_4, c208_4, A208_5, c208_5, A208_6, c208_6, e208, hx208_0, hx208_1, hx208_2, hx208_3, hx208_4, hx208_5, hx208_6, hl208_4, hi208_4, hl208_5, hi208_5, hl208_6, hi208_6⟩ := at_T45 HR0.out x6_1 p208 q208
           cases e208
           replace hx208_0 := (HB.out.cell (World.block_lt_of_cell? w _ hx208_0)).trans hx208_0
           replace hx208_1 := (HB.out.cell (World.block_lt_of_cell? w _ hx208_1)).trans hx208_1
           replace hx208_2 := (HB.out.cell (World.block_lt_of_cell? w _ hx208_2)).trans hx208_2
           replace hx208_3 := (HB.out.cell (World.block_lt_of_cell? w _ hx208_3)).trans hx208_3
           replace hx208_4 := (HB.out.cell (World.block_lt_of_cell? w _ hx208_4)).trans hx208_4
           replace hx208_5 := (HB.out.cell (World.block_lt_of_cell? w _ hx208_5)).trans hx208_5
           replace hx208_6 := (HB.out.cell (World.block_lt_of_cell? w _ hx208_6)).trans hx208_6
           have HR208_4 := Aside0.mk hi208_4
           have HC208_4 := Aside0.mk hl208_4
           clear hi208_4 hl208_4
           have HR208_5 := Aside0.mk hi208_5
           have HC208_5 := Aside0.mk hl208_5
           clear hi208_5 hl208_5
           have HR208_6 := Aside0.mk hi208_6
           have HC208_6 := Aside0.mk hl208_6
           clear hi208_6 hl208_6
           replace p208 := eq_true p208
           replace q208 := eq_true q208
           go_wp2_with (first | ((with_reducible refine gate_dst (N := 7) rfl ?_); refine box_event ?hg (N := 7) ?hd (cs := #[.int .i64 0, .int .i64 0, .string (⟨#[]⟩ : ByteArray), .string (⟨#[]⟩ : ByteArray), .slice none 0 0, .slice none 0 0, .slice none 0 0]) (t := 45) ?hr ?_; (case hd => rfl); (case hg => rfl); (case hr => first | (go_simp; done) | (go_simp; rfl)); intro gb209 hg w13 hbox hb; have n0_ := Aside0.mk (below_step (by repeat (first | (with_reducible first | exact HB.out | apply below_alloc | apply pw_below_drewN | apply below_drew1) | exact HB.out)) hb); have n1_ := Aside0.mk (hbox); have n2_ := Aside0.mk ((by rw [hg]; exact (below_size (by repeat (first | (with_reducible first | exact HB.out | apply below_alloc | apply pw_below_drewN | apply below_drew1) | exact HB.out))) : w.heap.size ≤ gb209)); have n3_ := Aside0.mk ((by rw [hg]; exact (below_size (by repeat (first | (with_reducible first | exact HB.out | apply below_alloc | apply pw_below_drewN | apply below_drew1) | exact HB.out))) : w.heap.size ≤ gb209)); clear HB; have HB := n0_; have BK209 := n1_; have GW209 := n2_; have GE209 := n3_; clear n0_ n1_ n2_ n3_; clear hb hbox hg; have hcz14_0 : w13.cell? ⟨gb209, 0, none⟩ = some (.int .i64 0) := (blk_cell BK209.out 0).trans rfl; have hcz14_1 : w13.cell? ⟨gb209, 1, none⟩ = some (.int .i64 0) := (blk_cell BK209.out 1).trans rfl; have hcz14_2 : w13.cell? ⟨gb209, 2, none⟩ = some (.string (⟨#[]⟩ : ByteArray)) := (blk_cell BK209.out 2).trans rfl; have hcz14_3 : w13.cell? ⟨gb209, 3, none⟩ = some (.string (⟨#[]⟩ : ByteArray)) := (blk_cell BK209.out 3).trans rfl; have hcz14_4 : w13.cell? ⟨gb209, 4, none⟩ = some (.slice none 0 0) := (blk_cell BK209.out 4).trans rfl; have hcz14_5 : w13.cell? ⟨gb209, 5, none⟩ = some (.slice none 0 0) := (blk_cell BK209.out 5).trans rfl; have hcz14_6 : w13.cell? ⟨gb209, 6, none⟩ = some (.slice none 0 0) := (blk_cell BK209.out 6).trans rfl; have hfz14_0 := blk_frozen BK209.out 0; have hfz14_1 := blk_frozen BK209.out 1; have hfz14_2 := blk_frozen BK209.out 2; have hfz14_3 := blk_frozen BK209.out 3; have hfz14_4 := blk_frozen BK209.out 4; have hfz14_5 := blk_frozen BK209.out 5; have hfz14_6 := blk_frozen BK209.out 6) | ((with_reducible refine gate_callee (f := 25) rfl ?_); refine goesL_ (some 22) rfl rfl Tryd.func25 (by kernel_rfl) rfl #[.slice A208_4 ((rd_T45 l0 x6_1).f4).length c208_4, .int .i64 0] rfl (by (try simp only [List.map_toArray, List.map_cons, List.map_nil]); first | done | rfl | (simp only [List.length_drop, List.length_take]; rfl)) ?_; (with_reducible refine (witheref6_kid.calls k1 _ _ ((rd_T45 l0 x6_1).f4) 0 t210 _ ?side1 ?side2 A5.out).mono ?_); (case side1 => exact Kd.C_below HR208_4.out (by repeat (first | (with_reducible first | exact HB.out | apply below_alloc | apply pw_below_drewN | apply below_drew1 | refine below_set ?_ GE209.out) | exact HB.out))); (case side2 => exact HC208_4.out); rintro e w15 ⟨rfl, hb⟩; refine ⟨_, rfl, ?_⟩; have n0_ := Aside0.mk (blk_below (g := gb209) (o := .cells #[.int .i64 ((rd_T45 l0 x6_1).f0), .int .i64 ((rd_T45 l0 x6_1).f1), .string ((rd_T45 l0 x6_1).f2), .string ((rd_T45 l0 x6_1).f3), .slice A208_4 ((rd_T45 l0 x6_1).f4).length c208_4, .slice A208_5 ((rd_T45 l0 x6_1).f5).length c208_5, .slice A208_6 ((rd_T45 l0 x6_1).f6).length c208_6] 45 (0, 0)) (by (with_reducible repeat (first | refine blk_drewN ?_ _ | refine blk_drew ?_ | refine blk_alloc ?_ _)); refine blk_put (cs := #[.int .i64 ((rd_T45 l0 x6_1).f0), .int .i64 ((rd_T45 l0 x6_1).f1), .string ((rd_T45 l0 x6_1).f2), .string ((rd_T45 l0 x6_1).f3), .slice A208_4 ((rd_T45 l0 x6_1).f4).length c208_4, .slice A208_5 ((rd_T45 l0 x6_1).f5).length c208_5, .slice none 0 0]) ?_ 6 _ rfl; (with_reducible repeat (first | refine blk_drewN ?_ _ | refine blk_drew ?_ | refine blk_alloc ?_ _)); refine blk_put (cs := #[.int .i64 ((rd_T45 l0 x6_1).f0), .int .i64 ((rd_T45 l0 x6_1).f1), .string ((rd_T45 l0 x6_1).f2), .string ((rd_T45 l0 x6_1).f3), .slice A208_4 ((rd_T45 l0 x6_1).f4).length c208_4, .slice none 0 0, .slice none 0 0]) ?_ 5 _ rfl; (with_reducible repeat (first | refine blk_drewN ?_ _ | refine blk_drew ?_ | refine blk_alloc ?_ _)); refine blk_put (cs := #[.int .i64 ((rd_T45 l0 x6_1).f0), .int .i64 ((rd_T45 l0 x6_1).f1), .string ((rd_T45 l0 x6_1).f2), .string ((rd_T45 l0 x6_1).f3), .slice none 0 0, .slice none 0 0, .slice none 0 0]) ?_ 4 _ rfl; (with_reducible repeat (first | refine blk_drewN ?_ _ | refine blk_drew ?_ | refine blk_alloc ?_ _)); refine blk_put (cs := #[.int .i64 ((rd_T45 l0 x6_1).f0), .int .i64 ((rd_T45 l0 x6_1).f1), .string ((rd_T45 l0 x6_1).f2), .string (⟨#[]⟩ : ByteArray), .slice none 0 0, .slice none 0 0, .slice none 0 0]) ?_ 3 _ rfl; (with_reducible repeat (first | refine blk_drewN ?_ _ | refine blk_drew ?_ | refine blk_alloc ?_ _)); refine blk_put (cs := #[.int .i64 ((rd_T45 l0 x6_1).f0), .int .i64 ((rd_T45 l0 x6_1).f1), .string (⟨#[]⟩ : ByteArray), .string (⟨#[]⟩ : ByteArray), .slice none 0 0, .slice none 0 0, .slice none 0 0]) ?_ 2 _ rfl; (with_reducible repeat (first | refine blk_drewN ?_ _ | refine blk_drew ?_ | refine blk_alloc ?_ _)); refine blk_put (cs := #[.int .i64 ((rd_T45 l0 x6_1).f0), .int .i64 0, .string (⟨#[]⟩ : ByteArray), .string (⟨#[]⟩ : ByteArray), .slice none 0 0, .slice none 0 0, .slice none 0 0]) ?_ 1 _ rfl; (with_reducible repeat (first | refine blk_drewN ?_ _ | refine blk_drew ?_ | refine blk_alloc ?_ _)); refine blk_put (cs := #[.int .i64 0, .int .i64 0, .string (⟨#[]⟩ : ByteArray), .string (⟨#[]⟩ : ByteArray), .slice none 0 0, .slice none 0 0, .slice none 0 0]) ?_ 0 _ rfl; (with_reducible repeat (first | refine blk_drewN ?_ _ | refine blk_drew ?_ | refine blk_alloc ?_ _)); exact BK209.out) hb); have n1_ := Aside0.mk (below_step (by repeat (first | (with_reducible first | exact HB.out | apply below_alloc | apply pw_below_drewN | apply below_drew1 | refine below_set ?_ GE209.out) | exact HB.out)) hb); clear BK209; clear HB; have BK209 := n0_; have HB := n1_; clear n0_ n1_; (try clear hb); (try clear hb2); (try clear hk); (try clear hi)) | ((with_reducible refine gate_callee (f := 34) rfl ?_); refine goesL_ (some 24) rfl rfl Tryd.func34 (by kernel_rfl) rfl #[.int .i64 a1] rfl (by (try simp only [List.map_toArray, List.map_cons, List.map_nil]); first | done | rfl | (simp only [List.length_drop, List.length_take]; rfl)) ?_; (with_reducible refine (witheref6_in.calls k1 a1 t211 _ A6.out).mono ?_); rintro e w' ⟨rfl, ⟨nd, rfl⟩⟩; refine ⟨_, rfl, ?_⟩; have hcz16_0 : w15.cell? ⟨gb209, 0, none⟩ = some (.int .i64 ((rd_T45 l0 x6_1).f0)) := (blk_cell BK209.out 0).trans rfl; have hcz16_1 : w15.cell? ⟨gb209, 1, none⟩ = some (.int .i64 ((rd_T45 l0 x6_1).f1)) := (blk_cell BK209.out 1).trans rfl; have hcz16_2 : w15.cell? ⟨gb209, 2, none⟩ = some (.string ((rd_T45 l0 x6_1).f2)) := (blk_cell BK209.out 2).trans rfl; have hcz16_3 : w15.cell? ⟨gb209, 3, none⟩ = some (.string ((rd_T45 l0 x6_1).f3)) := (blk_cell BK209.out 3).trans rfl; have hcz16_4 : w15.cell? ⟨gb209, 4, none⟩ = some (.slice A208_4 ((rd_T45 l0 x6_1).f4).length c208_4) := (blk_cell BK209.out 4).trans rfl; have hcz16_5 : w15.cell? ⟨gb209, 5, none⟩ = some (.slice A208_5 ((rd_T45 l0 x6_1).f5).length c208_5) := (blk_cell BK209.out 5).trans rfl; have hcz16_6 : w15.cell? ⟨gb209, 6, none⟩ = some (.slice A208_6 ((rd_T45 l0 x6_1).f6).length c208_6) := (blk_cell BK209.out 6).trans rfl; have hfz16_0 := blk_frozen BK209.out 0; have hfz16_1 := blk_frozen BK209.out 1; have hfz16_2 := blk_frozen BK209.out 2; have hfz16_3 := blk_frozen BK209.out 3; have hfz16_4 := blk_frozen BK209.out 4; have hfz16_5 := blk_frozen BK209.out 5; have hfz16_6 := blk_frozen BK209.out 6))
           go_roundg k1
           case measure => have := HK1.out; omega
           case rel => exact ⟨(((((x5_1 ++ t211) ++ ((rd_T45 l0 x6_1).f2)) ++ (⟨#[32, 61, 32]⟩ : ByteArray)) ++ t210) ++ (⟨#[59, 10]⟩ : ByteArray)), (wrap64 (x6_1 + 1)), (by first | rfl | (simp; done) | (simp [*]; done)), (by first | rfl | (simp; done) | (simp [*]; done)), H', ⟨by have := HK1.out; omega⟩, ⟨by repeat (first | (with_reducible first | exact HB.out | apply below_alloc | apply pw_below_drewN | apply below_drew1 | refine below_set ?_ GE209.out) | exact HB.out)⟩⟩
          ·rw [if_neg c12] at H
           exact absurd H (by simp)
         ·rw [if_neg c11] at H
          exact absurd H (by simp)
        ·rw [if_neg c10] at H
         exact absurd H (by simp)
       ·rw [if_neg c9] at H
        exact absurd H (by simp)
      ·rw [if_neg c8] at H
       exact absurd H (by simp)
     ·rw [if_neg c7] at H
      have c7b0 : (((rd_T45 l0 x6_1).f0) == 1) = false := beq_eq_false_iff_ne.mpr c7
      have c7b1 : (((rd_T45 l0 x6_1).f0) != 1) = true := bne_iff_ne.mpr c7
      by_cases c17 : ((rd_T45 l0 x6_1).f0) = 2
      ·rw [if_pos c17] at H
       have c17b0 : (((rd_T45 l0 x6_1).f0) == 2) = true := beq_iff_eq.mpr c17
       have c17b1 : (((rd_T45 l0 x6_1).f0) != 2) = false := bne_eq_false_iff_eq.mpr c17
       clear c17
       by_cases c18 : x5_1.size + t211.size ≤ 9223372036854775807
       ·rw [if_pos c18] at H
        have c18b0 := eq_true c18
        have c18b1 : decide (x5_1.size + t211.size ≤ 9223372036854775807) = true := decide_eq_true c18
        try have c18b2 : (9223372036854775807 < x5_1.size + t211.size) = False := eq_false (Nat.not_lt.2 c18)
        by_cases c19 : (x5_1 ++ t211).size + ((rd_T45 l0 x6_1).f2).size ≤ 9223372036854775807
        ·rw [if_pos c19] at H
         have c19b0 := eq_true c19
         have c19b1 : decide ((x5_1 ++ t211).size + ((rd_T45 l0 x6_1).f2).size ≤ 9223372036854775807) = true := decide_eq_true c19
         try (have c19b1s := c19b1; simp only [ByteArray.size_append] at c19b1s)
         try have c19b2 : (9223372036854775807 < (x5_1 ++ t211).size + ((rd_T45 l0 x6_1).f2).size) = False := eq_false (Nat.not_lt.2 c19)
         try (have c19b2s := c19b2; simp only [ByteArray.size_append] at c19b2s)
         by_cases c20 : ((x5_1 ++ t211) ++ ((rd_T45 l0 x6_1).f2)).size + 8 ≤ 9223372036854775807
         ·rw [if_pos c20] at H
          have c20b0 := eq_true c20
          have c20b1 : decide (((x5_1 ++ t211) ++ ((rd_T45 l0 x6_1).f2)).size + 8 ≤ 9223372036854775807) = true := decide_eq_true c20
          try (have c20b1s := c20b1; simp only [ByteArray.size_append] at c20b1s)
          try have c20b2 : (9223372036854775807 < ((x5_1 ++ t211) ++ ((rd_T45 l0 x6_1).f2)).size + 8) = False := eq_false (Nat.not_lt.2 c20)
          try (have c20b2s := c20b2; simp only [ByteArray.size_append] at c20b2s)
          replace H := Option.bind_eq_some_iff.mp H
          obtain ⟨t212, A210, H⟩ := H
          replace H : (if (((x5_1 ++ t211) ++ ((rd_T45 l0 x6_1).f2)) ++ (⟨#[32, 61, 32, 108, 111, 97, 100, 32]⟩ : ByteArray)).size + t212.size ≤ 9223372036854775807 then (if ((((x5_1 ++ t211) ++ ((rd_T45 l0 x6_1).f2)) ++ (⟨#[32, 61, 32, 108, 111, 97, 100, 32]⟩ : ByteArray)) ++ t212).size + 1 ≤ 9223372036854775807 then (if (((((x5_1 ++ t211) ++ ((rd_T45 l0 x6_1).f2)) ++ (⟨#[32, 61, 32, 108, 111, 97, 100, 32]⟩ : ByteArray)) ++ t212) ++ (⟨#[32]⟩ : ByteArray)).size + ((rd_T45 l0 x6_1).f3).size ≤ 9223372036854775807 then (if ((((((x5_1 ++ t211) ++ ((rd_T45 l0 x6_1).f2)) ++ (⟨#[32, 61, 32, 108, 111, 97, 100, 32]⟩ : ByteArray)) ++ t212) ++ (⟨#[32]⟩ : ByteArray)) ++ ((rd_T45 l0 x6_1).f3)).size + 2 ≤ 9223372036854775807 then (witheref6_lines.l0 k1 l0 a1 (((((((x5_1 ++ t211) ++ ((rd_T45 l0 x6_1).f2)) ++ (⟨#[32, 61, 32, 108, 111, 97, 100, 32]⟩ : ByteArray)) ++ t212) ++ (⟨#[32]⟩ : ByteArray)) ++ ((rd_T45 l0 x6_1).f3)) ++ (⟨#[59, 10]⟩ : ByteArray)) (wrap64 (x6_1 + 1))) else (none)) else (none)) else (none)) else (none)) = some r := H
          have A21 := Aside0.mk A210
          clear A210
          by_cases c22 : (((x5_1 ++ t211) ++ ((rd_T45 l0 x6_1).f2)) ++ (⟨#[32, 61, 32, 108, 111, 97, 100, 32]⟩ : ByteArray)).size + t212.size ≤ 9223372036854775807
          ·rw [if_pos c22] at H
           have c22b0 := eq_true c22
           have c22b1 : decide ((((x5_1 ++ t211) ++ ((rd_T45 l0 x6_1).f2)) ++ (⟨#[32, 61, 32, 108, 111, 97, 100, 32]⟩ : ByteArray)).size + t212.size ≤ 9223372036854775807) = true := decide_eq_true c22
           try (have c22b1s := c22b1; simp only [ByteArray.size_append, show (⟨#[32, 61, 32, 108, 111, 97, 100, 32]⟩ : ByteArray).size = 8 from rfl] at c22b1s)
           try have c22b2 : (9223372036854775807 < (((x5_1 ++ t211) ++ ((rd_T45 l0 x6_1).f2)) ++ (⟨#[32, 61, 32, 108, 111, 97, 100, 32]⟩ : ByteArray)).size + t212.size) = False := eq_false (Nat.not_lt.2 c22)
           try (have c22b2s := c22b2; simp only [ByteArray.size_append, show (⟨#[32, 61, 32, 108, 111, 97, 100, 32]⟩ : ByteArray).size = 8 from rfl] at c22b2s)
           by_cases c23 : ((((x5_1 ++ t211) ++ ((rd_T45 l0 x6_1).f2)) ++ (⟨#[32, 61, 32, 108, 111, 97, 100, 32]⟩ : ByteArray)) ++ t212).size + 1 ≤ 9223372036854775807
           ·rw [if_pos c23] at H
            have c23b0 := eq_true c23
            have c23b1 : decide (((((x5_1 ++ t211) ++ ((rd_T45 l0 x6_1).f2)) ++ (⟨#[32, 61, 32, 108, 111, 97, 100, 32]⟩ : ByteArray)) ++ t212).size + 1 ≤ 9223372036854775807) = true := decide_eq_true c23
            try (have c23b1s := c23b1; simp only [ByteArray.size_append, show (⟨#[32, 61, 32, 108, 111, 97, 100, 32]⟩ : ByteArray).size = 8 from rfl] at c23b1s)
            try have c23b2 : (9223372036854775807 < ((((x5_1 ++ t211) ++ ((rd_T45 l0 x6_1).f2)) ++ (⟨#[32, 61, 32, 108, 111, 97, 100, 32]⟩ : ByteArray)) ++ t212).size + 1) = False := eq_false (Nat.not_lt.2 c23)
            try (have c23b2s := c23b2; simp only [ByteArray.size_append, show (⟨#[32, 61, 32, 108, 111, 97, 100, 32]⟩ : ByteArray).size = 8 from rfl] at c23b2s)
            by_cases c24 : (((((x5_1 ++ t211) ++ ((rd_T45 l0 x6_1).f2)) ++ (⟨#[32, 61, 32, 108, 111, 97, 100, 32]⟩ : ByteArray)) ++ t212) ++ (⟨#[32]⟩ : ByteArray)).size + ((rd_T45 l0 x6_1).f3).size ≤ 9223372036854775807
            ·rw [if_pos c24] at H
             have c24b0 := eq_true c24
             have c24b1 : decide ((((((x5_1 ++ t211) ++ ((rd_T45 l0 x6_1).f2)) ++ (⟨#[32, 61, 32, 108, 111, 97, 100, 32]⟩ : ByteArray)) ++ t212) ++ (⟨#[32]⟩ : ByteArray)).size + ((rd_T45 l0 x6_1).f3).size ≤ 9223372036854775807) = true := decide_eq_true c24
             try (have c24b1s := c24b1; simp only [ByteArray.size_append, show (⟨#[32, 61, 32, 108, 111, 97, 100, 32]⟩ : ByteArray).size = 8 from rfl, show (⟨#[32]⟩ : ByteArray).size = 1 from rfl] at c24b1s)
             try have c24b2 : (9223372036854775807 < (((((x5_1 ++ t211) ++ ((rd_T45 l0 x6_1).f2)) ++ (⟨#[32, 61, 32, 108, 111, 97, 100, 32]⟩ : ByteArray)) ++ t212) ++ (⟨#[32]⟩ : ByteArray)).size + ((rd_T45 l0 x6_1).f3).size) = False := eq_false (Nat.not_lt.2 c24)
             try (have c24b2s := c24b2; simp only [ByteArray.size_append, show (⟨#[32, 61, 32, 108, 111, 97, 100, 32]⟩ : ByteArray).size = 8 from rfl, show (⟨#[32]⟩ : ByteArray).size = 1 from rfl] at c24b2s)
             by_cases c25 : ((((((x5_1 ++ t211) ++ ((rd_T45 l0 x6_1).f2)) ++ (⟨#[32, 61, 32, 108, 111, 97, 100, 32]⟩ : ByteArray)) ++ t212) ++ (⟨#[32]⟩ : ByteArray)) ++ ((rd_T45 l0 x6_1).f3)).size + 2 ≤ 9223372036854775807
             ·rw [if_pos c25] at H
              have c25b0 := eq_true c25
              have c25b1 : decide (((((((x5_1 ++ t211) ++ ((rd_T45 l0 x6_1).f2)) ++ (⟨#[32, 61, 32, 108, 111, 97, 100, 32]⟩ : ByteArray)) ++ t212) ++ (⟨#[32]⟩ : ByteArray)) ++ ((rd_T45 l0 x6_1).f3)).size + 2 ≤ 9223372036854775807) = true := decide_eq_true c25
              try (have c25b1s := c25b1; simp only [ByteArray.size_append, show (⟨#[32, 61, 32, 108, 111, 97, 100, 32]⟩ : ByteArray).size = 8 from rfl, show (⟨#[32]⟩ : ByteArray).size = 1 from rfl] at c25b1s)
              try have c25b2 : (9223372036854775807 < ((((((x5_1 ++ t211) ++ ((rd_T45 l0 x6_1).f2)) ++ (⟨#[32, 61, 32, 108, 111, 97, 100, 32]⟩ : ByteArray)) ++ t212) ++ (⟨#[32]⟩ : ByteArray)) ++ ((rd_T45 l0 x6_1).f3)).size + 2) = False := eq_false (Nat.not_lt.2 c25)
              try (have c25b2s := c25b2; simp only [ByteArray.size_append, show (⟨#[32, 61, 32, 108, 111, 97, 100, 32]⟩ : ByteArray).size = 8 from rfl, show (⟨#[32]⟩ : ByteArray).size = 1 from rfl] at c25b2s)
              have H' := Aside0.mk H
              clear H
              have p208 : 0 ≤ (x6_1 : Int) := of_decide_eq_true (by first | (with_reducible assumption) | assumption)
              have q208 : x6_1 < (l0.length : Int) := of_decide_eq_true (by first | (with_reducible assumption) | assumption)
              obtain ⟨ad208, A208_4, c208_4, A208_5, c208_5, A208_6, c208_6, e208, hx208_0, hx208_1, hx208_2, hx208_3, hx208_4, hx208_5, hx208_6, hl208_4, hi208_4, hl208_5, hi208_5, hl208_6, hi208_6⟩ := at_T45 HR0.out x6_1 p208 q208
              cases e208
              replace hx208_0 := (HB.out.cell (World.block_lt_of_cell? w _ hx208_0)).trans hx208_0
              replace hx208_1 := (HB.out.cell (World.block_lt_of_cell? w _ hx208_1)).trans hx208_1
              replace hx208_2 := (HB.out.cell (World.block_lt_of_cell? w _ hx208_2)).trans hx208_2
              replace hx208_3 := (HB.out.cell (World.block_lt_of_cell? w _ hx208_3)).trans hx208_3
              replace hx208_4 := (HB.out.cell (World.block_lt_of_cell? w _ hx208_4)).trans hx208_4
              replace hx208_5 := (HB.out.cell (World.block_lt_of_cell? w _ hx208_5)).trans hx208_5
              replace hx208_6 := (HB.out.cell (World.block_lt_of_cell? w _ hx208_6)).trans hx208_6
              have HR208_4 := Aside0.mk hi208_4
              have HC208_4 := Aside0.mk hl208_4
              clear hi208_4 hl208_4
              have HR208_5 := Aside0.mk hi208_5
              have HC208_5 := Aside0.mk hl208_5
              clear hi208_5 hl208_5
              have HR208_6 := Aside0.mk hi208_6
              have HC208_6 := Aside0.mk hl208_6
              clear hi208_6 hl208_6
              replace p208 := eq_true p208
              replace q208 := eq_true q208
              try go_wp2_with (first | ((with_reducible refine gate_dst (N := 7) rfl ?_); refine box_event ?hg (N := 7) ?hd (cs := #[.int .i64 0, .int .i64 0, .string (⟨#[]⟩ : ByteArray), .string (⟨#[]⟩ : ByteArray), .slice none 0 0, .slice none 0 0, .slice none 0 0]) (t := 45) ?hr ?_; (case hd => rfl); (case hg => rfl); (case hr => first | (go_simp; done) | (go_simp; rfl)); intro gb209 hg w26 hbox hb; have n0_ := Aside0.mk (below_step (by repeat (first | (with_reducible first | exact HB.out | apply below_alloc | apply pw_below_drewN | apply below_drew1) | exact HB.out)) hb); have n1_ := Aside0.mk (hbox); have n2_ := Aside0.mk ((by rw [hg]; exact (below_size (by repeat (first | (with_reducible first | exact HB.out | apply below_alloc | apply pw_below_drewN | apply below_drew1) | exact HB.out))) : w.heap.size ≤ gb209)); have n3_ := Aside0.mk ((by rw [hg]; exact (below_size (by repeat (first | (with_reducible first | exact HB.out | apply below_alloc | apply pw_below_drewN | apply below_drew1) | exact HB.out))) : w.heap.size ≤ gb209)); clear HB; have HB := n0_; have BK209 := n1_; have GW209 := n2_; have GE209 := n3_; clear n0_ n1_ n2_ n3_; clear hb hbox hg; have hcz27_0 : w26.cell? ⟨gb209, 0, none⟩ = some (.int .i64 0) := (blk_cell BK209.out 0).trans rfl; have hcz27_1 : w26.cell? ⟨gb209, 1, none⟩ = some (.int .i64 0) := (blk_cell BK209.out 1).trans rfl; have hcz27_2 : w26.cell? ⟨gb209, 2, none⟩ = some (.string (⟨#[]⟩ : ByteArray)) := (blk_cell BK209.out 2).trans rfl; have hcz27_3 : w26.cell? ⟨gb209, 3, none⟩ = some (.string (⟨#[]⟩ : ByteArray)) := (blk_cell BK209.out 3).trans rfl; have hcz27_4 : w26.cell? ⟨gb209, 4, none⟩ = some (.slice none 0 0) := (blk_cell BK209.out 4).trans rfl; have hcz27_5 : w26.cell? ⟨gb209, 5, none⟩ = some (.slice none 0 0) := (blk_cell BK209.out 5).trans rfl; have hcz27_6 : w26.cell? ⟨gb209, 6, none⟩ = some (.slice none 0 0) := (blk_cell BK209.out 6).trans rfl; have hfz27_0 := blk_frozen BK209.out 0; have hfz27_1 := blk_frozen BK209.out 1; have hfz27_2 := blk_frozen BK209.out 2; have hfz27_3 := blk_frozen BK209.out 3; have hfz27_4 := blk_frozen BK209.out 4; have hfz27_5 := blk_frozen BK209.out 5; have hfz27_6 := blk_frozen BK209.out 6) | ((with_reducible refine gate_callee (f := 25) rfl ?_); refine goesL_ (some 22) rfl rfl Tryd.func25 (by kernel_rfl) rfl #[.slice A208_4 ((rd_T45 l0 x6_1).f4).length c208_4, .int .i64 0] rfl (by (try simp only [List.map_toArray, List.map_cons, List.map_nil]); first | done | rfl | (simp only [List.length_drop, List.length_take]; rfl)) ?_; (with_reducible refine (witheref6_kid.calls k1 _ _ ((rd_T45 l0 x6_1).f4) 0 t210 _ ?side1 ?side2 A5.out).mono ?_); (case side1 => exact Kd.C_below HR208_4.out (by repeat (first | (with_reducible first | exact HB.out | apply below_alloc | apply pw_below_drewN | apply below_drew1 | refine below_set ?_ GE209.out) | exact HB.out))); (case side2 => exact HC208_4.out); rintro e w28 ⟨rfl, hb⟩; refine ⟨_, rfl, ?_⟩; have n0_ := Aside0.mk (blk_below (g := gb209) (o := .cells #[.int .i64 ((rd_T45 l0 x6_1).f0), .int .i64 ((rd_T45 l0 x6_1).f1), .string ((rd_T45 l0 x6_1).f2), .string ((rd_T45 l0 x6_1).f3), .slice A208_4 ((rd_T45 l0 x6_1).f4).length c208_4, .slice A208_5 ((rd_T45 l0 x6_1).f5).length c208_5, .slice A208_6 ((rd_T45 l0 x6_1).f6).length c208_6] 45 (0, 0)) (by (with_reducible repeat (first | refine blk_drewN ?_ _ | refine blk_drew ?_ | refine blk_alloc ?_ _)); refine blk_put (cs := #[.int .i64 ((rd_T45 l0 x6_1).f0), .int .i64 ((rd_T45 l0 x6_1).f1), .string ((rd_T45 l0 x6_1).f2), .string ((rd_T45 l0 x6_1).f3), .slice A208_4 ((rd_T45 l0 x6_1).f4).length c208_4, .slice A208_5 ((rd_T45 l0 x6_1).f5).length c208_5, .slice none 0 0]) ?_ 6 _ rfl; (with_reducible repeat (first | refine blk_drewN ?_ _ | refine blk_drew ?_ | refine blk_alloc ?_ _)); refine blk_put (cs := #[.int .i64 ((rd_T45 l0 x6_1).f0), .int .i64 ((rd_T45 l0 x6_1).f1), .string ((rd_T45 l0 x6_1).f2), .string ((rd_T45 l0 x6_1).f3), .slice A208_4 ((rd_T45 l0 x6_1).f4).length c208_4, .slice none 0 0, .slice none 0 0]) ?_ 5 _ rfl; (with_reducible repeat (first | refine blk_drewN ?_ _ | refine blk_drew ?_ | refine blk_alloc ?_ _)); refine blk_put (cs := #[.int .i64 ((rd_T45 l0 x6_1).f0), .int .i64 ((rd_T45 l0 x6_1).f1), .string ((rd_T45 l0 x6_1).f2), .string ((rd_T45 l0 x6_1).f3), .slice none 0 0, .slice none 0 0, .slice none 0 0]) ?_ 4 _ rfl; (with_reducible repeat (first | refine blk_drewN ?_ _ | refine blk_drew ?_ | refine blk_alloc ?_ _)); refine blk_put (cs := #[.int .i64 ((rd_T45 l0 x6_1).f0), .int .i64 ((rd_T45 l0 x6_1).f1), .string ((rd_T45 l0 x6_1).f2), .string (⟨#[]⟩ : ByteArray), .slice none 0 0, .slice none 0 0, .slice none 0 0]) ?_ 3 _ rfl; (with_reducible repeat (first | refine blk_drewN ?_ _ | refine blk_drew ?_ | refine blk_alloc ?_ _)); refine blk_put (cs := #[.int .i64 ((rd_T45 l0 x6_1).f0), .int .i64 ((rd_T45 l0 x6_1).f1), .string (⟨#[]⟩ : ByteArray), .string (⟨#[]⟩ : ByteArray), .slice none 0 0, .slice none 0 0, .slice none 0 0]) ?_ 2 _ rfl; (with_reducible repeat (first | refine blk_drewN ?_ _ | refine blk_drew ?_ | refine blk_alloc ?_ _)); refine blk_put (cs := #[.int .i64 ((rd_T45 l0 x6_1).f0), .int .i64 0, .string (⟨#[]⟩ : ByteArray), .string (⟨#[]⟩ : ByteArray), .slice none 0 0, .slice none 0 0, .slice none 0 0]) ?_ 1 _ rfl; (with_reducible repeat (first | refine blk_drewN ?_ _ | refine blk_drew ?_ | refine blk_alloc ?_ _)); refine blk_put (cs := #[.int .i64 0, .int .i64 0, .string (⟨#[]⟩ : ByteArray), .string (⟨#[]⟩ : ByteArray), .slice none 0 0, .slice none 0 0, .slice none 0 0]) ?_ 0 _ rfl; (with_reducible repeat (first | refine blk_drewN ?_ _ | refine blk_drew ?_ | refine blk_alloc ?_ _)); exact BK209.out) hb); have n1_ := Aside0.mk (below_step (by repeat (first | (with_reducible first | exact HB.out | apply below_alloc | apply pw_below_drewN | apply below_drew1 | refine below_set ?_ GE209.out) | exact HB.out)) hb); clear BK209; clear HB; have BK209 := n0_; have HB := n1_; clear n0_ n1_; (try clear hb); (try clear hb2); (try clear hk); (try clear hi)) | ((with_reducible refine gate_callee (f := 34) rfl ?_); refine goesL_ (some 24) rfl rfl Tryd.func34 (by kernel_rfl) rfl #[.int .i64 a1] rfl (by (try simp only [List.map_toArray, List.map_cons, List.map_nil]); first | done | rfl | (simp only [List.length_drop, List.length_take]; rfl)) ?_; (with_reducible refine (witheref6_in.calls k1 a1 t211 _ A6.out).mono ?_); rintro e w' ⟨rfl, ⟨nd, rfl⟩⟩; refine ⟨_, rfl, ?_⟩; have hcz29_0 : w28.cell? ⟨gb209, 0, none⟩ = some (.int .i64 ((rd_T45 l0 x6_1).f0)) := (blk_cell BK209.out 0).trans rfl; have hcz29_1 : w28.cell? ⟨gb209, 1, none⟩ = some (.int .i64 ((rd_T45 l0 x6_1).f1)) := (blk_cell BK209.out 1).trans rfl; have hcz29_2 : w28.cell? ⟨gb209, 2, none⟩ = some (.string ((rd_T45 l0 x6_1).f2)) := (blk_cell BK209.out 2).trans rfl; have hcz29_3 : w28.cell? ⟨gb209, 3, none⟩ = some (.string ((rd_T45 l0 x6_1).f3)) := (blk_cell BK209.out 3).trans rfl; have hcz29_4 : w28.cell? ⟨gb209, 4, none⟩ = some (.slice A208_4 ((rd_T45 l0 x6_1).f4).length c208_4) := (blk_cell BK209.out 4).trans rfl; have hcz29_5 : w28.cell? ⟨gb209, 5, none⟩ = some (.slice A208_5 ((rd_T45 l0 x6_1).f5).length c208_5) := (blk_cell BK209.out 5).trans rfl; have hcz29_6 : w28.cell? ⟨gb209, 6, none⟩ = some (.slice A208_6 ((rd_T45 l0 x6_1).f6).length c208_6) := (blk_cell BK209.out 6).trans rfl; have hfz29_0 := blk_frozen BK209.out 0; have hfz29_1 := blk_frozen BK209.out 1; have hfz29_2 := blk_frozen BK209.out 2; have hfz29_3 := blk_frozen BK209.out 3; have hfz29_4 := blk_frozen BK209.out 4; have hfz29_5 := blk_frozen BK209.out 5; have hfz29_6 := blk_frozen BK209.out 6))
              (try (rw [drewN_self w28]; generalize hq_ : World.drewN w28 _ = w28; have n0_ : Aside0 (w28.heap[gb209]? = some (.cells #[.int .i64 ((rd_T45 l0 x6_1).f0), .int .i64 ((rd_T45 l0 x6_1).f1), .string ((rd_T45 l0 x6_1).f2), .string ((rd_T45 l0 x6_1).f3), .slice A208_4 ((rd_T45 l0 x6_1).f4).length c208_4, .slice A208_5 ((rd_T45 l0 x6_1).f5).length c208_5, .slice A208_6 ((rd_T45 l0 x6_1).f6).length c208_6] 45 (0, 0))) := ⟨by rw [← hq_]; exact (by (with_reducible repeat (first | refine blk_drewN ?_ _ | refine blk_drew ?_ | refine blk_alloc ?_ _)); exact BK209.out)⟩; have n1_ : Aside0 (Below w.heap.size w w28) := ⟨by rw [← hq_]; exact (by repeat (first | (with_reducible first | exact HB.out | apply below_alloc | apply pw_below_drewN | apply below_drew1 | refine below_set ?_ GE209.out) | exact HB.out))⟩; clear BK209 HB hq_; have BK209 := n0_; have HB := n1_; clear n0_ n1_))
              have n0_ := Aside0.mk (blk_drew BK209.out)
              have n1_ := Aside0.mk (below_drew1 HB.out)
              clear BK209
              clear HB
              have BK209 := n0_
              have HB := n1_
              clear n0_ n1_
              refine start_ (n := 17) (S := fun w' => w'.cell? ⟨gb209, 0, none⟩ = some (.int .i64 ((rd_T45 l0 x6_1).f0)) ∧ w'.cell? ⟨gb209, 1, none⟩ = some (.int .i64 ((rd_T45 l0 x6_1).f1)) ∧ w'.cell? ⟨gb209, 2, none⟩ = some (.string ((rd_T45 l0 x6_1).f2)) ∧ w'.cell? ⟨gb209, 3, none⟩ = some (.string ((rd_T45 l0 x6_1).f3)) ∧ w'.cell? ⟨gb209, 4, none⟩ = some (.slice A208_4 ((rd_T45 l0 x6_1).f4).length c208_4) ∧ w'.cell? ⟨gb209, 5, none⟩ = some (.slice A208_5 ((rd_T45 l0 x6_1).f5).length c208_5) ∧ w'.cell? ⟨gb209, 6, none⟩ = some (.slice A208_6 ((rd_T45 l0 x6_1).f6).length c208_6)) (ds := []) #[false, false, false, false, false, false, false, false, false, false, false, false, false, false, false, false, false] (by kernel_rfl) rfl rfl ⟨(blk_cell BK209.out 0).trans rfl, (blk_cell BK209.out 1).trans rfl, (blk_cell BK209.out 2).trans rfl, (blk_cell BK209.out 3).trans rfl, (blk_cell BK209.out 4).trans rfl, (blk_cell BK209.out 5).trans rfl, (blk_cell BK209.out 6).trans rfl⟩ (fun hHeld => ?_); refine with_tabW witheref6_lines.tab12 witheref6_lines.bits12 (fun HT_ HW_ => ?_)
              generalize w28.drew = w30 at BK209 HB hHeld ⊢
              refine pure_ (i := 0) (N := some 41) (v := ?_) (a' := ?_) #[true, false, false, false, false, false, false, false, false, false, false, false, false, false, false, false, false] rfl rfl (any_of HT_.out (by kernel_rfl)) (fun _ _ _ h => h) (Or.inl ⟨by rfl, ?_⟩) ?_ ?_
              rotate_left
              ·intro w'
               go_simp
               with_reducible rfl
              rotate_left
              ·simp only [Act.put, List.setIfInBounds_toArray, List.set_cons_zero, List.set_cons_succ, i64_w, i32_w]
               rfl
              refine pure_ (i := 1) (N := some 42) (v := ?_) (a' := ?_) #[true, true, false, false, false, false, false, false, false, false, false, false, false, false, false, false, false] rfl rfl (any_of HT_.out (by kernel_rfl)) (fun _ _ _ h => h) (Or.inl ⟨by rfl, ?_⟩) ?_ ?_
              rotate_left
              ·intro w'
               go_simp
               with_reducible rfl
              rotate_left
              ·simp only [Act.put, List.setIfInBounds_toArray, List.set_cons_zero, List.set_cons_succ, i64_w, i32_w]
               rfl
              refine pure_ (i := 2) (N := some 43) (v := ?_) (a' := ?_) #[true, true, true, false, false, false, false, false, false, false, false, false, false, false, false, false, false] rfl rfl (any_of HT_.out (by kernel_rfl)) (fun _ _ _ h => h) (Or.inl ⟨by rfl, ?_⟩) ?_ ?_
              rotate_left
              ·intro w'
               go_simp
               with_reducible rfl
              rotate_left
              ·simp only [Act.put, List.setIfInBounds_toArray, List.set_cons_zero, List.set_cons_succ, i64_w, i32_w]
               rfl
              refine pure_ (i := 3) (N := some 44) (v := ?_) (a' := ?_) #[true, true, true, true, false, false, false, false, false, false, false, false, false, false, false, false, false] rfl rfl (any_of HT_.out (by kernel_rfl)) (fun _ _ _ h => h) (Or.inl ⟨by rfl, ?_⟩) ?_ ?_
              rotate_left
              ·intro w'
               go_simp
               with_reducible rfl
              rotate_left
              ·simp only [Act.put, List.setIfInBounds_toArray, List.set_cons_zero, List.set_cons_succ, i64_w, i32_w]
               rfl
              refine pure_ (i := 7) (N := some 48) (v := ?_) (a' := ?_) #[true, true, true, true, false, false, false, true, false, false, false, false, false, false, false, false, false] rfl rfl (any_of HT_.out (by kernel_rfl)) (fun _ _ _ h => h) (Or.inl ⟨by rfl, ?_⟩) ?_ ?_
              rotate_left
              ·intro w'
               go_simp
               with_reducible rfl
              rotate_left
              ·simp only [Act.put, List.setIfInBounds_toArray, List.set_cons_zero, List.set_cons_succ, i64_w, i32_w]
               rfl
              refine pure_ (i := 12) (N := some 53) (v := ?_) (a' := ?_) #[true, true, true, true, false, false, false, true, false, false, false, false, true, false, false, false, false] rfl rfl (any_of HT_.out (by kernel_rfl)) (fun _ _ _ h => h) (Or.inl ⟨by rfl, ?_⟩) ?_ ?_
              rotate_left
              ·intro w'
               go_simp
               with_reducible rfl
              rotate_left
              ·simp only [Act.put, List.setIfInBounds_toArray, List.set_cons_zero, List.set_cons_succ, i64_w, i32_w]
               rfl
              refine take_ (i := 4) (N := some 45) (v := ?_) (a' := ?_) #[true, true, true, true, true, false, false, true, false, false, false, false, true, false, false, false, false] rfl rfl (take_ofW HT_.out HW_.out (by kernel_rfl)) (fun _ _ _ h => h) (Or.inl ⟨by rfl, ?_⟩) hHeld ?_ ?_
              rotate_left
              ·rintro w' ⟨s0, s1, s2, s3, s4, s5, s6⟩
               go_simp
               with_reducible rfl
              rotate_left
              ·simp only [Act.put, List.setIfInBounds_toArray, List.set_cons_zero, List.set_cons_succ, i64_w, i32_w]
               rfl
              refine pure_ (i := 5) (N := some 46) (v := ?_) (a' := ?_) #[true, true, true, true, true, true, false, true, false, false, false, false, true, false, false, false, false] rfl rfl (any_of HT_.out (by kernel_rfl)) (fun _ _ _ h => h) (Or.inl ⟨by rfl, ?_⟩) ?_ ?_
              rotate_left
              ·intro w'
               go_simp
               with_reducible rfl
              rotate_left
              ·simp only [Act.put, List.setIfInBounds_toArray, List.set_cons_zero, List.set_cons_succ, i64_w, i32_w]
               rfl
              refine pure_ (i := 6) (N := some 47) (v := ?_) (a' := ?_) #[true, true, true, true, true, true, true, true, false, false, false, false, true, false, false, false, false] rfl rfl (any_of HT_.out (by kernel_rfl)) (fun _ _ _ h => h) (Or.inl ⟨by rfl, ?_⟩) ?_ ?_
              rotate_left
              ·intro w'
               go_simp
               with_reducible rfl
              rotate_left
              ·simp only [Act.put, List.setIfInBounds_toArray, List.set_cons_zero, List.set_cons_succ, i64_w, i32_w]
               rfl
              refine take_ (i := 8) (N := some 49) (v := ?_) (a' := ?_) #[true, true, true, true, true, true, true, true, true, false, false, false, true, false, false, false, false] rfl rfl (take_ofW HT_.out HW_.out (by kernel_rfl)) (fun _ _ _ h => h) (Or.inl ⟨by rfl, ?_⟩) hHeld ?_ ?_
              rotate_left
              ·rintro w' ⟨s0, s1, s2, s3, s4, s5, s6⟩
               go_simp
               with_reducible rfl
              rotate_left
              ·simp only [Act.put, List.setIfInBounds_toArray, List.set_cons_zero, List.set_cons_succ, i64_w, i32_w]
               rfl
              refine take_ (i := 13) (N := some 54) (v := ?_) (a' := ?_) #[true, true, true, true, true, true, true, true, true, false, false, false, true, true, false, false, false] rfl rfl (take_ofW HT_.out HW_.out (by kernel_rfl)) (fun _ _ _ h => h) (Or.inl ⟨by rfl, ?_⟩) hHeld ?_ ?_
              rotate_left
              ·rintro w' ⟨s0, s1, s2, s3, s4, s5, s6⟩
               go_simp
               with_reducible rfl
              rotate_left
              ·simp only [Act.put, List.setIfInBounds_toArray, List.set_cons_zero, List.set_cons_succ, i64_w, i32_w]
               rfl
              refine one_ (i := 9) (N := some 50) #[true, true, true, true, true, true, true, true, true, true, false, false, true, true, false, false, false] rfl rfl (one_of HT_.out (by kernel_rfl)) (by decide) (fun K hK => ?_)
              refine goes_ Tryd.func15 (by kernel_rfl) rfl #[.int .i64 ((rd_T45 l0 x6_1).f1)] (by rfl) rfl rfl (by (try simp only [List.map_toArray, List.map_cons, List.map_nil]); first | done | rfl | (simp only [List.length_drop, List.length_take]; rfl)) ?_
              with_reducible refine (witheref6_Mode.calls ((rd_T45 l0 x6_1).f1) t212 _ A21.out).mono ?_
              rintro e w' ⟨rfl, ⟨nd, rfl⟩⟩
              refine ⟨_, rfl, ?_⟩
              refine hK.out _ _ ⟨(blk_cell BK209.out 0).trans rfl, (blk_cell BK209.out 1).trans rfl, (blk_cell BK209.out 2).trans rfl, (blk_cell BK209.out 3).trans rfl, (blk_cell BK209.out 4).trans rfl, (blk_cell BK209.out 5).trans rfl, (blk_cell BK209.out 6).trans rfl⟩ (fun hHeld => ?_)
              clear hK K
              refine norm_ (a' := ?_) ?_ ?_
              rotate_left
              ·show Act.put _ (some 50) _ = _
               simp only [Act.put, List.setIfInBounds_toArray, List.set_cons_zero, List.set_cons_succ, i64_w, i32_w]
               rfl
              refine pure_ (i := 10) (N := some 51) (v := ?_) (a' := ?_) #[true, true, true, true, true, true, true, true, true, true, true, false, true, true, false, false, false] rfl rfl (any_of HT_.out (by kernel_rfl)) (fun _ _ _ h => h) (Or.inl ⟨by rfl, ?_⟩) ?_ ?_
              rotate_left
              ·intro w'
               go_simp
               with_reducible rfl
              rotate_left
              ·simp only [Act.put, List.setIfInBounds_toArray, List.set_cons_zero, List.set_cons_succ, i64_w, i32_w]
               rfl
              refine pure_ (i := 11) (N := some 52) (v := ?_) (a' := ?_) #[true, true, true, true, true, true, true, true, true, true, true, true, true, true, false, false, false] rfl rfl (any_of HT_.out (by kernel_rfl)) (fun _ _ _ h => h) (Or.inl ⟨by rfl, ?_⟩) ?_ ?_
              rotate_left
              ·intro w'
               go_simp
               with_reducible rfl
              rotate_left
              ·simp only [Act.put, List.setIfInBounds_toArray, List.set_cons_zero, List.set_cons_succ, i64_w, i32_w]
               rfl
              refine pure_ (i := 14) (N := some 55) (v := ?_) (a' := ?_) #[true, true, true, true, true, true, true, true, true, true, true, true, true, true, true, false, false] rfl rfl (any_of HT_.out (by kernel_rfl)) (fun _ _ _ h => h) (Or.inl ⟨by rfl, ?_⟩) ?_ ?_
              rotate_left
              ·intro w'
               go_simp
               with_reducible rfl
              rotate_left
              ·simp only [Act.put, List.setIfInBounds_toArray, List.set_cons_zero, List.set_cons_succ, i64_w, i32_w]
               rfl
              refine pure_ (i := 15) (N := some 56) (v := ?_) (a' := ?_) #[true, true, true, true, true, true, true, true, true, true, true, true, true, true, true, true, false] rfl rfl (any_of HT_.out (by kernel_rfl)) (fun _ _ _ h => h) (Or.inl ⟨by rfl, ?_⟩) ?_ ?_
              rotate_left
              ·intro w'
               go_simp
               with_reducible rfl
              rotate_left
              ·simp only [Act.put, List.setIfInBounds_toArray, List.set_cons_zero, List.set_cons_succ, i64_w, i32_w]
               rfl
              refine pure_ (i := 16) (N := some 5) (v := ?_) (a' := ?_) #[true, true, true, true, true, true, true, true, true, true, true, true, true, true, true, true, true] rfl rfl (any_of HT_.out (by kernel_rfl)) (fun _ _ _ h => h) (Or.inl ⟨by rfl, ?_⟩) ?_ ?_
              rotate_left
              ·intro w'
               go_simp
               with_reducible rfl
              rotate_left
              ·simp only [Act.put, List.setIfInBounds_toArray, List.set_cons_zero, List.set_cons_succ, i64_w, i32_w]
               rfl
              refine done_ (done_of HT_.out (by kernel_rfl)) ?_
              try go_wp2
              go_roundg k1
              case measure => have := HK1.out; omega
              case rel => exact ⟨(((((((x5_1 ++ t211) ++ ((rd_T45 l0 x6_1).f2)) ++ (⟨#[32, 61, 32, 108, 111, 97, 100, 32]⟩ : ByteArray)) ++ t212) ++ (⟨#[32]⟩ : ByteArray)) ++ ((rd_T45 l0 x6_1).f3)) ++ (⟨#[59, 10]⟩ : ByteArray)), (wrap64 (x6_1 + 1)), (by first | rfl | (simp; done) | (simp [*]; done)), (by first | rfl | (simp; done) | (simp [*]; done)), H', ⟨by have := HK1.out; omega⟩, ⟨by repeat (first | (with_reducible first | exact HB.out | apply below_alloc | apply pw_below_drewN | apply below_drew1 | refine below_set ?_ GE209.out) | exact HB.out)⟩⟩
             ·rw [if_neg c25] at H
              exact absurd H (by simp)
            ·rw [if_neg c24] at H
             exact absurd H (by simp)
           ·rw [if_neg c23] at H
            exact absurd H (by simp)
          ·rw [if_neg c22] at H
           exact absurd H (by simp)
         ·rw [if_neg c20] at H
          exact absurd H (by simp)
        ·rw [if_neg c19] at H
         exact absurd H (by simp)
       ·rw [if_neg c18] at H
        exact absurd H (by simp)
      ·rw [if_neg c17] at H
       have c17b0 : (((rd_T45 l0 x6_1).f0) == 2) = false := beq_eq_false_iff_ne.mpr c17
       have c17b1 : (((rd_T45 l0 x6_1).f0) != 2) = true := bne_iff_ne.mpr c17
       by_cases c31 : ((rd_T45 l0 x6_1).f0) = 3
       ·rw [if_pos c31] at H
        have c31b0 : (((rd_T45 l0 x6_1).f0) == 3) = true := beq_iff_eq.mpr c31
        have c31b1 : (((rd_T45 l0 x6_1).f0) != 3) = false := bne_eq_false_iff_eq.mpr c31
        clear c31
        by_cases c32 : x5_1.size + t211.size ≤ 9223372036854775807
        ·rw [if_pos c32] at H
         have c32b0 := eq_true c32
         have c32b1 : decide (x5_1.size + t211.size ≤ 9223372036854775807) = true := decide_eq_true c32
         try have c32b2 : (9223372036854775807 < x5_1.size + t211.size) = False := eq_false (Nat.not_lt.2 c32)
         by_cases c33 : (x5_1 ++ t211).size + 6 ≤ 9223372036854775807
         ·rw [if_pos c33] at H
          have c33b0 := eq_true c33
          have c33b1 : decide ((x5_1 ++ t211).size + 6 ≤ 9223372036854775807) = true := decide_eq_true c33
          try (have c33b1s := c33b1; simp only [ByteArray.size_append] at c33b1s)
          try have c33b2 : (9223372036854775807 < (x5_1 ++ t211).size + 6) = False := eq_false (Nat.not_lt.2 c33)
          try (have c33b2s := c33b2; simp only [ByteArray.size_append] at c33b2s)
          replace H := Option.bind_eq_some_iff.mp H
          obtain ⟨t213, A340, H⟩ := H
          replace H : (if ((x5_1 ++ t211) ++ (⟨#[115, 116, 111, 114, 101, 32]⟩ : ByteArray)).size + t213.size ≤ 9223372036854775807 then (if (((x5_1 ++ t211) ++ (⟨#[115, 116, 111, 114, 101, 32]⟩ : ByteArray)) ++ t213).size + 1 ≤ 9223372036854775807 then (if ((((x5_1 ++ t211) ++ (⟨#[115, 116, 111, 114, 101, 32]⟩ : ByteArray)) ++ t213) ++ (⟨#[32]⟩ : ByteArray)).size + ((rd_T45 l0 x6_1).f3).size ≤ 9223372036854775807 then (if (((((x5_1 ++ t211) ++ (⟨#[115, 116, 111, 114, 101, 32]⟩ : ByteArray)) ++ t213) ++ (⟨#[32]⟩ : ByteArray)) ++ ((rd_T45 l0 x6_1).f3)).size + 1 ≤ 9223372036854775807 then (if ((((((x5_1 ++ t211) ++ (⟨#[115, 116, 111, 114, 101, 32]⟩ : ByteArray)) ++ t213) ++ (⟨#[32]⟩ : ByteArray)) ++ ((rd_T45 l0 x6_1).f3)) ++ (⟨#[32]⟩ : ByteArray)).size + t210.size ≤ 9223372036854775807 then (if (((((((x5_1 ++ t211) ++ (⟨#[115, 116, 111, 114, 101, 32]⟩ : ByteArray)) ++ t213) ++ (⟨#[32]⟩ : ByteArray)) ++ ((rd_T45 l0 x6_1).f3)) ++ (⟨#[32]⟩ : ByteArray)) ++ t210).size + 2 ≤ 9223372036854775807 then (witheref6_lines.l0 k1 l0 a1 ((((((((x5_1 ++ t211) ++ (⟨#[115, 116, 111, 114, 101, 32]⟩ : ByteArray)) ++ t213) ++ (⟨#[32]⟩ : ByteArray)) ++ ((rd_T45 l0 x6_1).f3)) ++ (⟨#[32]⟩ : ByteArray)) ++ t210) ++ (⟨#[59, 10]⟩ : ByteArray)) (wrap64 (x6_1 + 1))) else (none)) else (none)) else (none)) else (none)) else (none)) else (none)) = some r := H
          have A34 := Aside0.mk A340
          clear A340
          by_cases c35 : ((x5_1 ++ t211) ++ (⟨#[115, 116, 111, 114, 101, 32]⟩ : ByteArray)).size + t213.size ≤ 9223372036854775807
          ·rw [if_pos c35] at H
           have c35b0 := eq_true c35
           have c35b1 : decide (((x5_1 ++ t211) ++ (⟨#[115, 116, 111, 114, 101, 32]⟩ : ByteArray)).size + t213.size ≤ 9223372036854775807) = true := decide_eq_true c35
           try (have c35b1s := c35b1; simp only [ByteArray.size_append, show (⟨#[115, 116, 111, 114, 101, 32]⟩ : ByteArray).size = 6 from rfl] at c35b1s)
           try have c35b2 : (9223372036854775807 < ((x5_1 ++ t211) ++ (⟨#[115, 116, 111, 114, 101, 32]⟩ : ByteArray)).size + t213.size) = False := eq_false (Nat.not_lt.2 c35)
           try (have c35b2s := c35b2; simp only [ByteArray.size_append, show (⟨#[115, 116, 111, 114, 101, 32]⟩ : ByteArray).size = 6 from rfl] at c35b2s)
           by_cases c36 : (((x5_1 ++ t211) ++ (⟨#[115, 116, 111, 114, 101, 32]⟩ : ByteArray)) ++ t213).size + 1 ≤ 9223372036854775807
           ·rw [if_pos c36] at H
            have c36b0 := eq_true c36
            have c36b1 : decide ((((x5_1 ++ t211) ++ (⟨#[115, 116, 111, 114, 101, 32]⟩ : ByteArray)) ++ t213).size + 1 ≤ 9223372036854775807) = true := decide_eq_true c36
            try (have c36b1s := c36b1; simp only [ByteArray.size_append, show (⟨#[115, 116, 111, 114, 101, 32]⟩ : ByteArray).size = 6 from rfl] at c36b1s)
            try have c36b2 : (9223372036854775807 < (((x5_1 ++ t211) ++ (⟨#[115, 116, 111, 114, 101, 32]⟩ : ByteArray)) ++ t213).size + 1) = False := eq_false (Nat.not_lt.2 c36)
            try (have c36b2s := c36b2; simp only [ByteArray.size_append, show (⟨#[115, 116, 111, 114, 101, 32]⟩ : ByteArray).size = 6 from rfl] at c36b2s)
            by_cases c37 : ((((x5_1 ++ t211) ++ (⟨#[115, 116, 111, 114, 101, 32]⟩ : ByteArray)) ++ t213) ++ (⟨#[32]⟩ : ByteArray)).size + ((rd_T45 l0 x6_1).f3).size ≤ 9223372036854775807
            ·rw [if_pos c37] at H
             have c37b0 := eq_true c37
             have c37b1 : decide (((((x5_1 ++ t211) ++ (⟨#[115, 116, 111, 114, 101, 32]⟩ : ByteArray)) ++ t213) ++ (⟨#[32]⟩ : ByteArray)).size + ((rd_T45 l0 x6_1).f3).size ≤ 9223372036854775807) = true := decide_eq_true c37
             try (have c37b1s := c37b1; simp only [ByteArray.size_append, show (⟨#[115, 116, 111, 114, 101, 32]⟩ : ByteArray).size = 6 from rfl, show (⟨#[32]⟩ : ByteArray).size = 1 from rfl] at c37b1s)
             try have c37b2 : (9223372036854775807 < ((((x5_1 ++ t211) ++ (⟨#[115, 116, 111, 114, 101, 32]⟩ : ByteArray)) ++ t213) ++ (⟨#[32]⟩ : ByteArray)).size + ((rd_T45 l0 x6_1).f3).size) = False := eq_false (Nat.not_lt.2 c37)
             try (have c37b2s := c37b2; simp only [ByteArray.size_append, show (⟨#[115, 116, 111, 114, 101, 32]⟩ : ByteArray).size = 6 from rfl, show (⟨#[32]⟩ : ByteArray).size = 1 from rfl] at c37b2s)
             by_cases c38 : (((((x5_1 ++ t211) ++ (⟨#[115, 116, 111, 114, 101, 32]⟩ : ByteArray)) ++ t213) ++ (⟨#[32]⟩ : ByteArray)) ++ ((rd_T45 l0 x6_1).f3)).size + 1 ≤ 9223372036854775807
             ·rw [if_pos c38] at H
              have c38b0 := eq_true c38
              have c38b1 : decide ((((((x5_1 ++ t211) ++ (⟨#[115, 116, 111, 114, 101, 32]⟩ : ByteArray)) ++ t213) ++ (⟨#[32]⟩ : ByteArray)) ++ ((rd_T45 l0 x6_1).f3)).size + 1 ≤ 9223372036854775807) = true := decide_eq_true c38
              try (have c38b1s := c38b1; simp only [ByteArray.size_append, show (⟨#[115, 116, 111, 114, 101, 32]⟩ : ByteArray).size = 6 from rfl, show (⟨#[32]⟩ : ByteArray).size = 1 from rfl] at c38b1s)
              try have c38b2 : (9223372036854775807 < (((((x5_1 ++ t211) ++ (⟨#[115, 116, 111, 114, 101, 32]⟩ : ByteArray)) ++ t213) ++ (⟨#[32]⟩ : ByteArray)) ++ ((rd_T45 l0 x6_1).f3)).size + 1) = False := eq_false (Nat.not_lt.2 c38)
              try (have c38b2s := c38b2; simp only [ByteArray.size_append, show (⟨#[115, 116, 111, 114, 101, 32]⟩ : ByteArray).size = 6 from rfl, show (⟨#[32]⟩ : ByteArray).size = 1 from rfl] at c38b2s)
              by_cases c39 : ((((((x5_1 ++ t211) ++ (⟨#[115, 116, 111, 114, 101, 32]⟩ : ByteArray)) ++ t213) ++ (⟨#[32]⟩ : ByteArray)) ++ ((rd_T45 l0 x6_1).f3)) ++ (⟨#[32]⟩ : ByteArray)).size + t210.size ≤ 9223372036854775807
              ·rw [if_pos c39] at H
               have c39b0 := eq_true c39
               have c39b1 : decide (((((((x5_1 ++ t211) ++ (⟨#[115, 116, 111, 114, 101, 32]⟩ : ByteArray)) ++ t213) ++ (⟨#[32]⟩ : ByteArray)) ++ ((rd_T45 l0 x6_1).f3)) ++ (⟨#[32]⟩ : ByteArray)).size + t210.size ≤ 9223372036854775807) = true := decide_eq_true c39
               try (have c39b1s := c39b1; simp only [ByteArray.size_append, show (⟨#[115, 116, 111, 114, 101, 32]⟩ : ByteArray).size = 6 from rfl, show (⟨#[32]⟩ : ByteArray).size = 1 from rfl] at c39b1s)
               try have c39b2 : (9223372036854775807 < ((((((x5_1 ++ t211) ++ (⟨#[115, 116, 111, 114, 101, 32]⟩ : ByteArray)) ++ t213) ++ (⟨#[32]⟩ : ByteArray)) ++ ((rd_T45 l0 x6_1).f3)) ++ (⟨#[32]⟩ : ByteArray)).size + t210.size) = False := eq_false (Nat.not_lt.2 c39)
               try (have c39b2s := c39b2; simp only [ByteArray.size_append, show (⟨#[115, 116, 111, 114, 101, 32]⟩ : ByteArray).size = 6 from rfl, show (⟨#[32]⟩ : ByteArray).size = 1 from rfl] at c39b2s)
               by_cases c40 : (((((((x5_1 ++ t211) ++ (⟨#[115, 116, 111, 114, 101, 32]⟩ : ByteArray)) ++ t213) ++ (⟨#[32]⟩ : ByteArray)) ++ ((rd_T45 l0 x6_1).f3)) ++ (⟨#[32]⟩ : ByteArray)) ++ t210).size + 2 ≤ 9223372036854775807
               ·rw [if_pos c40] at H
                have c40b0 := eq_true c40
                have c40b1 : decide ((((((((x5_1 ++ t211) ++ (⟨#[115, 116, 111, 114, 101, 32]⟩ : ByteArray)) ++ t213) ++ (⟨#[32]⟩ : ByteArray)) ++ ((rd_T45 l0 x6_1).f3)) ++ (⟨#[32]⟩ : ByteArray)) ++ t210).size + 2 ≤ 9223372036854775807) = true := decide_eq_true c40
                try (have c40b1s := c40b1; simp only [ByteArray.size_append, show (⟨#[115, 116, 111, 114, 101, 32]⟩ : ByteArray).size = 6 from rfl, show (⟨#[32]⟩ : ByteArray).size = 1 from rfl] at c40b1s)
                try have c40b2 : (9223372036854775807 < (((((((x5_1 ++ t211) ++ (⟨#[115, 116, 111, 114, 101, 32]⟩ : ByteArray)) ++ t213) ++ (⟨#[32]⟩ : ByteArray)) ++ ((rd_T45 l0 x6_1).f3)) ++ (⟨#[32]⟩ : ByteArray)) ++ t210).size + 2) = False := eq_false (Nat.not_lt.2 c40)
                try (have c40b2s := c40b2; simp only [ByteArray.size_append, show (⟨#[115, 116, 111, 114, 101, 32]⟩ : ByteArray).size = 6 from rfl, show (⟨#[32]⟩ : ByteArray).size = 1 from rfl] at c40b2s)
                have H' := Aside0.mk H
                clear H
                have p208 : 0 ≤ (x6_1 : Int) := of_decide_eq_true (by first | (with_reducible assumption) | assumption)
                have q208 : x6_1 < (l0.length : Int) := of_decide_eq_true (by first | (with_reducible assumption) | assumption)
                obtain ⟨ad208, A208_4, c208_4, A208_5, c208_5, A208_6, c208_6, e208, hx208_0, hx208_1, hx208_2, hx208_3, hx208_4, hx208_5, hx208_6, hl208_4, hi208_4, hl208_5, hi208_5, hl208_6, hi208_6⟩ := at_T45 HR0.out x6_1 p208 q208
                cases e208
                replace hx208_0 := (HB.out.cell (World.block_lt_of_cell? w _ hx208_0)).trans hx208_0
                replace hx208_1 := (HB.out.cell (World.block_lt_of_cell? w _ hx208_1)).trans hx208_1
                replace hx208_2 := (HB.out.cell (World.block_lt_of_cell? w _ hx208_2)).trans hx208_2
                replace hx208_3 := (HB.out.cell (World.block_lt_of_cell? w _ hx208_3)).trans hx208_3
                replace hx208_4 := (HB.out.cell (World.block_lt_of_cell? w _ hx208_4)).trans hx208_4
                replace hx208_5 := (HB.out.cell (World.block_lt_of_cell? w _ hx208_5)).trans hx208_5
                replace hx208_6 := (HB.out.cell (World.block_lt_of_cell? w _ hx208_6)).trans hx208_6
                have HR208_4 := Aside0.mk hi208_4
                have HC208_4 := Aside0.mk hl208_4
                clear hi208_4 hl208_4
                have HR208_5 := Aside0.mk hi208_5
                have HC208_5 := Aside0.mk hl208_5
                clear hi208_5 hl208_5
                have HR208_6 := Aside0.mk hi208_6
                have HC208_6 := Aside0.mk hl208_6
                clear hi208_6 hl208_6
                replace p208 := eq_true p208
                replace q208 := eq_true q208
                try go_wp2_with (first | ((with_reducible refine gate_dst (N := 7) rfl ?_); refine box_event ?hg (N := 7) ?hd (cs := #[.int .i64 0, .int .i64 0, .string (⟨#[]⟩ : ByteArray), .string (⟨#[]⟩ : ByteArray), .slice none 0 0, .slice none 0 0, .slice none 0 0]) (t := 45) ?hr ?_; (case hd => rfl); (case hg => rfl); (case hr => first | (go_simp; done) | (go_simp; rfl)); intro gb209 hg w41 hbox hb; have n0_ := Aside0.mk (below_step (by repeat (first | (with_reducible first | exact HB.out | apply below_alloc | apply pw_below_drewN | apply below_drew1) | exact HB.out)) hb); have n1_ := Aside0.mk (hbox); have n2_ := Aside0.mk ((by rw [hg]; exact (below_size (by repeat (first | (with_reducible first | exact HB.out | apply below_alloc | apply pw_below_drewN | apply below_drew1) | exact HB.out))) : w.heap.size ≤ gb209)); have n3_ := Aside0.mk ((by rw [hg]; exact (below_size (by repeat (first | (with_reducible first | exact HB.out | apply below_alloc | apply pw_below_drewN | apply below_drew1) | exact HB.out))) : w.heap.size ≤ gb209)); clear HB; have HB := n0_; have BK209 := n1_; have GW209 := n2_; have GE209 := n3_; clear n0_ n1_ n2_ n3_; clear hb hbox hg; have hcz42_0 : w41.cell? ⟨gb209, 0, none⟩ = some (.int .i64 0) := (blk_cell BK209.out 0).trans rfl; have hcz42_1 : w41.cell? ⟨gb209, 1, none⟩ = some (.int .i64 0) := (blk_cell BK209.out 1).trans rfl; have hcz42_2 : w41.cell? ⟨gb209, 2, none⟩ = some (.string (⟨#[]⟩ : ByteArray)) := (blk_cell BK209.out 2).trans rfl; have hcz42_3 : w41.cell? ⟨gb209, 3, none⟩ = some (.string (⟨#[]⟩ : ByteArray)) := (blk_cell BK209.out 3).trans rfl; have hcz42_4 : w41.cell? ⟨gb209, 4, none⟩ = some (.slice none 0 0) := (blk_cell BK209.out 4).trans rfl; have hcz42_5 : w41.cell? ⟨gb209, 5, none⟩ = some (.slice none 0 0) := (blk_cell BK209.out 5).trans rfl; have hcz42_6 : w41.cell? ⟨gb209, 6, none⟩ = some (.slice none 0 0) := (blk_cell BK209.out 6).trans rfl; have hfz42_0 := blk_frozen BK209.out 0; have hfz42_1 := blk_frozen BK209.out 1; have hfz42_2 := blk_frozen BK209.out 2; have hfz42_3 := blk_frozen BK209.out 3; have hfz42_4 := blk_frozen BK209.out 4; have hfz42_5 := blk_frozen BK209.out 5; have hfz42_6 := blk_frozen BK209.out 6) | ((with_reducible refine gate_callee (f := 25) rfl ?_); refine goesL_ (some 22) rfl rfl Tryd.func25 (by kernel_rfl) rfl #[.slice A208_4 ((rd_T45 l0 x6_1).f4).length c208_4, .int .i64 0] rfl (by (try simp only [List.map_toArray, List.map_cons, List.map_nil]); first | done | rfl | (simp only [List.length_drop, List.length_take]; rfl)) ?_; (with_reducible refine (witheref6_kid.calls k1 _ _ ((rd_T45 l0 x6_1).f4) 0 t210 _ ?side1 ?side2 A5.out).mono ?_); (case side1 => exact Kd.C_below HR208_4.out (by repeat (first | (with_reducible first | exact HB.out | apply below_alloc | apply pw_below_drewN | apply below_drew1 | refine below_set ?_ GE209.out) | exact HB.out))); (case side2 => exact HC208_4.out); rintro e w43 ⟨rfl, hb⟩; refine ⟨_, rfl, ?_⟩; have n0_ := Aside0.mk (blk_below (g := gb209) (o := .cells #[.int .i64 ((rd_T45 l0 x6_1).f0), .int .i64 ((rd_T45 l0 x6_1).f1), .string ((rd_T45 l0 x6_1).f2), .string ((rd_T45 l0 x6_1).f3), .slice A208_4 ((rd_T45 l0 x6_1).f4).length c208_4, .slice A208_5 ((rd_T45 l0 x6_1).f5).length c208_5, .slice A208_6 ((rd_T45 l0 x6_1).f6).length c208_6] 45 (0, 0)) (by (with_reducible repeat (first | refine blk_drewN ?_ _ | refine blk_drew ?_ | refine blk_alloc ?_ _)); refine blk_put (cs := #[.int .i64 ((rd_T45 l0 x6_1).f0), .int .i64 ((rd_T45 l0 x6_1).f1), .string ((rd_T45 l0 x6_1).f2), .string ((rd_T45 l0 x6_1).f3), .slice A208_4 ((rd_T45 l0 x6_1).f4).length c208_4, .slice A208_5 ((rd_T45 l0 x6_1).f5).length c208_5, .slice none 0 0]) ?_ 6 _ rfl; (with_reducible repeat (first | refine blk_drewN ?_ _ | refine blk_drew ?_ | refine blk_alloc ?_ _)); refine blk_put (cs := #[.int .i64 ((rd_T45 l0 x6_1).f0), .int .i64 ((rd_T45 l0 x6_1).f1), .string ((rd_T45 l0 x6_1).f2), .string ((rd_T45 l0 x6_1).f3), .slice A208_4 ((rd_T45 l0 x6_1).f4).length c208_4, .slice none 0 0, .slice none 0 0]) ?_ 5 _ rfl; (with_reducible repeat (first | refine blk_drewN ?_ _ | refine blk_drew ?_ | refine blk_alloc ?_ _)); refine blk_put (cs := #[.int .i64 ((rd_T45 l0 x6_1).f0), .int .i64 ((rd_T45 l0 x6_1).f1), .string ((rd_T45 l0 x6_1).f2), .string ((rd_T45 l0 x6_1).f3), .slice none 0 0, .slice none 0 0, .slice none 0 0]) ?_ 4 _ rfl; (with_reducible repeat (first | refine blk_drewN ?_ _ | refine blk_drew ?_ | refine blk_alloc ?_ _)); refine blk_put (cs := #[.int .i64 ((rd_T45 l0 x6_1).f0), .int .i64 ((rd_T45 l0 x6_1).f1), .string ((rd_T45 l0 x6_1).f2), .string (⟨#[]⟩ : ByteArray), .slice none 0 0, .slice none 0 0, .slice none 0 0]) ?_ 3 _ rfl; (with_reducible repeat (first | refine blk_drewN ?_ _ | refine blk_drew ?_ | refine blk_alloc ?_ _)); refine blk_put (cs := #[.int .i64 ((rd_T45 l0 x6_1).f0), .int .i64 ((rd_T45 l0 x6_1).f1), .string (⟨#[]⟩ : ByteArray), .string (⟨#[]⟩ : ByteArray), .slice none 0 0, .slice none 0 0, .slice none 0 0]) ?_ 2 _ rfl; (with_reducible repeat (first | refine blk_drewN ?_ _ | refine blk_drew ?_ | refine blk_alloc ?_ _)); refine blk_put (cs := #[.int .i64 ((rd_T45 l0 x6_1).f0), .int .i64 0, .string (⟨#[]⟩ : ByteArray), .string (⟨#[]⟩ : ByteArray), .slice none 0 0, .slice none 0 0, .slice none 0 0]) ?_ 1 _ rfl; (with_reducible repeat (first | refine blk_drewN ?_ _ | refine blk_drew ?_ | refine blk_alloc ?_ _)); refine blk_put (cs := #[.int .i64 0, .int .i64 0, .string (⟨#[]⟩ : ByteArray), .string (⟨#[]⟩ : ByteArray), .slice none 0 0, .slice none 0 0, .slice none 0 0]) ?_ 0 _ rfl; (with_reducible repeat (first | refine blk_drewN ?_ _ | refine blk_drew ?_ | refine blk_alloc ?_ _)); exact BK209.out) hb); have n1_ := Aside0.mk (below_step (by repeat (first | (with_reducible first | exact HB.out | apply below_alloc | apply pw_below_drewN | apply below_drew1 | refine below_set ?_ GE209.out) | exact HB.out)) hb); clear BK209; clear HB; have BK209 := n0_; have HB := n1_; clear n0_ n1_; (try clear hb); (try clear hb2); (try clear hk); (try clear hi)) | ((with_reducible refine gate_callee (f := 34) rfl ?_); refine goesL_ (some 24) rfl rfl Tryd.func34 (by kernel_rfl) rfl #[.int .i64 a1] rfl (by (try simp only [List.map_toArray, List.map_cons, List.map_nil]); first | done | rfl | (simp only [List.length_drop, List.length_take]; rfl)) ?_; (with_reducible refine (witheref6_in.calls k1 a1 t211 _ A6.out).mono ?_); rintro e w' ⟨rfl, ⟨nd, rfl⟩⟩; refine ⟨_, rfl, ?_⟩; have hcz44_0 : w43.cell? ⟨gb209, 0, none⟩ = some (.int .i64 ((rd_T45 l0 x6_1).f0)) := (blk_cell BK209.out 0).trans rfl; have hcz44_1 : w43.cell? ⟨gb209, 1, none⟩ = some (.int .i64 ((rd_T45 l0 x6_1).f1)) := (blk_cell BK209.out 1).trans rfl; have hcz44_2 : w43.cell? ⟨gb209, 2, none⟩ = some (.string ((rd_T45 l0 x6_1).f2)) := (blk_cell BK209.out 2).trans rfl; have hcz44_3 : w43.cell? ⟨gb209, 3, none⟩ = some (.string ((rd_T45 l0 x6_1).f3)) := (blk_cell BK209.out 3).trans rfl; have hcz44_4 : w43.cell? ⟨gb209, 4, none⟩ = some (.slice A208_4 ((rd_T45 l0 x6_1).f4).length c208_4) := (blk_cell BK209.out 4).trans rfl; have hcz44_5 : w43.cell? ⟨gb209, 5, none⟩ = some (.slice A208_5 ((rd_T45 l0 x6_1).f5).length c208_5) := (blk_cell BK209.out 5).trans rfl; have hcz44_6 : w43.cell? ⟨gb209, 6, none⟩ = some (.slice A208_6 ((rd_T45 l0 x6_1).f6).length c208_6) := (blk_cell BK209.out 6).trans rfl; have hfz44_0 := blk_frozen BK209.out 0; have hfz44_1 := blk_frozen BK209.out 1; have hfz44_2 := blk_frozen BK209.out 2; have hfz44_3 := blk_frozen BK209.out 3; have hfz44_4 := blk_frozen BK209.out 4; have hfz44_5 := blk_frozen BK209.out 5; have hfz44_6 := blk_frozen BK209.out 6))
                (try (rw [drewN_self w43]; generalize hq_ : World.drewN w43 _ = w43; have n0_ : Aside0 (w43.heap[gb209]? = some (.cells #[.int .i64 ((rd_T45 l0 x6_1).f0), .int .i64 ((rd_T45 l0 x6_1).f1), .string ((rd_T45 l0 x6_1).f2), .string ((rd_T45 l0 x6_1).f3), .slice A208_4 ((rd_T45 l0 x6_1).f4).length c208_4, .slice A208_5 ((rd_T45 l0 x6_1).f5).length c208_5, .slice A208_6 ((rd_T45 l0 x6_1).f6).length c208_6] 45 (0, 0))) := ⟨by rw [← hq_]; exact (by (with_reducible repeat (first | refine blk_drewN ?_ _ | refine blk_drew ?_ | refine blk_alloc ?_ _)); exact BK209.out)⟩; have n1_ : Aside0 (Below w.heap.size w w43) := ⟨by rw [← hq_]; exact (by repeat (first | (with_reducible first | exact HB.out | apply below_alloc | apply pw_below_drewN | apply below_drew1 | refine below_set ?_ GE209.out) | exact HB.out))⟩; clear BK209 HB hq_; have BK209 := n0_; have HB := n1_; clear n0_ n1_))
                have n0_ := Aside0.mk (blk_drew BK209.out)
                have n1_ := Aside0.mk (below_drew1 HB.out)
                clear BK209
                clear HB
                have BK209 := n0_
                have HB := n1_
                clear n0_ n1_
                refine start_ (n := 17) (S := fun w' => w'.cell? ⟨gb209, 0, none⟩ = some (.int .i64 ((rd_T45 l0 x6_1).f0)) ∧ w'.cell? ⟨gb209, 1, none⟩ = some (.int .i64 ((rd_T45 l0 x6_1).f1)) ∧ w'.cell? ⟨gb209, 2, none⟩ = some (.string ((rd_T45 l0 x6_1).f2)) ∧ w'.cell? ⟨gb209, 3, none⟩ = some (.string ((rd_T45 l0 x6_1).f3)) ∧ w'.cell? ⟨gb209, 4, none⟩ = some (.slice A208_4 ((rd_T45 l0 x6_1).f4).length c208_4) ∧ w'.cell? ⟨gb209, 5, none⟩ = some (.slice A208_5 ((rd_T45 l0 x6_1).f5).length c208_5) ∧ w'.cell? ⟨gb209, 6, none⟩ = some (.slice A208_6 ((rd_T45 l0 x6_1).f6).length c208_6)) (ds := []) #[false, false, false, false, false, false, false, false, false, false, false, false, false, false, false, false, false] (by kernel_rfl) rfl rfl ⟨(blk_cell BK209.out 0).trans rfl, (blk_cell BK209.out 1).trans rfl, (blk_cell BK209.out 2).trans rfl, (blk_cell BK209.out 3).trans rfl, (blk_cell BK209.out 4).trans rfl, (blk_cell BK209.out 5).trans rfl, (blk_cell BK209.out 6).trans rfl⟩ (fun hHeld => ?_); refine with_tabW witheref6_lines.tab14 witheref6_lines.bits14 (fun HT_ HW_ => ?_)
                generalize w43.drew = w45 at BK209 HB hHeld ⊢
                refine pure_ (i := 0) (N := some 59) (v := ?_) (a' := ?_) #[true, false, false, false, false, false, false, false, false, false, false, false, false, false, false, false, false] rfl rfl (any_of HT_.out (by kernel_rfl)) (fun _ _ _ h => h) (Or.inl ⟨by rfl, ?_⟩) ?_ ?_
                rotate_left
                ·intro w'
                 go_simp
                 with_reducible rfl
                rotate_left
                ·simp only [Act.put, List.setIfInBounds_toArray, List.set_cons_zero, List.set_cons_succ, i64_w, i32_w]
                 rfl
                refine pure_ (i := 1) (N := some 60) (v := ?_) (a' := ?_) #[true, true, false, false, false, false, false, false, false, false, false, false, false, false, false, false, false] rfl rfl (any_of HT_.out (by kernel_rfl)) (fun _ _ _ h => h) (Or.inl ⟨by rfl, ?_⟩) ?_ ?_
                rotate_left
                ·intro w'
                 go_simp
                 with_reducible rfl
                rotate_left
                ·simp only [Act.put, List.setIfInBounds_toArray, List.set_cons_zero, List.set_cons_succ, i64_w, i32_w]
                 rfl
                refine pure_ (i := 2) (N := some 61) (v := ?_) (a' := ?_) #[true, true, true, false, false, false, false, false, false, false, false, false, false, false, false, false, false] rfl rfl (any_of HT_.out (by kernel_rfl)) (fun _ _ _ h => h) (Or.inl ⟨by rfl, ?_⟩) ?_ ?_
                rotate_left
                ·intro w'
                 go_simp
                 with_reducible rfl
                rotate_left
                ·simp only [Act.put, List.setIfInBounds_toArray, List.set_cons_zero, List.set_cons_succ, i64_w, i32_w]
                 rfl
                refine pure_ (i := 3) (N := some 62) (v := ?_) (a' := ?_) #[true, true, true, true, false, false, false, false, false, false, false, false, false, false, false, false, false] rfl rfl (any_of HT_.out (by kernel_rfl)) (fun _ _ _ h => h) (Or.inl ⟨by rfl, ?_⟩) ?_ ?_
                rotate_left
                ·intro w'
                 go_simp
                 with_reducible rfl
                rotate_left
                ·simp only [Act.put, List.setIfInBounds_toArray, List.set_cons_zero, List.set_cons_succ, i64_w, i32_w]
                 rfl
                refine pure_ (i := 4) (N := some 63) (v := ?_) (a' := ?_) #[true, true, true, true, true, false, false, false, false, false, false, false, false, false, false, false, false] rfl rfl (any_of HT_.out (by kernel_rfl)) (fun _ _ _ h => h) (Or.inl ⟨by rfl, ?_⟩) ?_ ?_
                rotate_left
                ·intro w'
                 go_simp
                 with_reducible rfl
                rotate_left
                ·simp only [Act.put, List.setIfInBounds_toArray, List.set_cons_zero, List.set_cons_succ, i64_w, i32_w]
                 rfl
                refine pure_ (i := 9) (N := some 68) (v := ?_) (a' := ?_) #[true, true, true, true, true, false, false, false, false, true, false, false, false, false, false, false, false] rfl rfl (any_of HT_.out (by kernel_rfl)) (fun _ _ _ h => h) (Or.inl ⟨by rfl, ?_⟩) ?_ ?_
                rotate_left
                ·intro w'
                 go_simp
                 with_reducible rfl
                rotate_left
                ·simp only [Act.put, List.setIfInBounds_toArray, List.set_cons_zero, List.set_cons_succ, i64_w, i32_w]
                 rfl
                refine pure_ (i := 13) (N := some 72) (v := ?_) (a' := ?_) #[true, true, true, true, true, false, false, false, false, true, false, false, false, true, false, false, false] rfl rfl (any_of HT_.out (by kernel_rfl)) (fun _ _ _ h => h) (Or.inl ⟨by rfl, ?_⟩) ?_ ?_
                rotate_left
                ·intro w'
                 go_simp
                 with_reducible rfl
                rotate_left
                ·simp only [Act.put, List.setIfInBounds_toArray, List.set_cons_zero, List.set_cons_succ, i64_w, i32_w]
                 rfl
                refine take_ (i := 5) (N := some 64) (v := ?_) (a' := ?_) #[true, true, true, true, true, true, false, false, false, true, false, false, false, true, false, false, false] rfl rfl (take_ofW HT_.out HW_.out (by kernel_rfl)) (fun _ _ _ h => h) (Or.inl ⟨by rfl, ?_⟩) hHeld ?_ ?_
                rotate_left
                ·rintro w' ⟨s0, s1, s2, s3, s4, s5, s6⟩
                 go_simp
                 with_reducible rfl
                rotate_left
                ·simp only [Act.put, List.setIfInBounds_toArray, List.set_cons_zero, List.set_cons_succ, i64_w, i32_w]
                 rfl
                refine take_ (i := 10) (N := some 69) (v := ?_) (a' := ?_) #[true, true, true, true, true, true, false, false, false, true, true, false, false, true, false, false, false] rfl rfl (take_ofW HT_.out HW_.out (by kernel_rfl)) (fun _ _ _ h => h) (Or.inl ⟨by rfl, ?_⟩) hHeld ?_ ?_
                rotate_left
                ·rintro w' ⟨s0, s1, s2, s3, s4, s5, s6⟩
                 go_simp
                 with_reducible rfl
                rotate_left
                ·simp only [Act.put, List.setIfInBounds_toArray, List.set_cons_zero, List.set_cons_succ, i64_w, i32_w]
                 rfl
                refine one_ (i := 6) (N := some 65) #[true, true, true, true, true, true, true, false, false, true, true, false, false, true, false, false, false] rfl rfl (one_of HT_.out (by kernel_rfl)) (by decide) (fun K hK => ?_)
                refine goes_ Tryd.func15 (by kernel_rfl) rfl #[.int .i64 ((rd_T45 l0 x6_1).f1)] (by rfl) rfl rfl (by (try simp only [List.map_toArray, List.map_cons, List.map_nil]); first | done | rfl | (simp only [List.length_drop, List.length_take]; rfl)) ?_
                with_reducible refine (witheref6_Mode.calls ((rd_T45 l0 x6_1).f1) t213 _ A34.out).mono ?_
                rintro e w' ⟨rfl, ⟨nd, rfl⟩⟩
                refine ⟨_, rfl, ?_⟩
                refine hK.out _ _ ⟨(blk_cell BK209.out 0).trans rfl, (blk_cell BK209.out 1).trans rfl, (blk_cell BK209.out 2).trans rfl, (blk_cell BK209.out 3).trans rfl, (blk_cell BK209.out 4).trans rfl, (blk_cell BK209.out 5).trans rfl, (blk_cell BK209.out 6).trans rfl⟩ (fun hHeld => ?_)
                clear hK K
                refine norm_ (a' := ?_) ?_ ?_
                rotate_left
                ·show Act.put _ (some 65) _ = _
                 simp only [Act.put, List.setIfInBounds_toArray, List.set_cons_zero, List.set_cons_succ, i64_w, i32_w]
                 rfl
                refine pure_ (i := 7) (N := some 66) (v := ?_) (a' := ?_) #[true, true, true, true, true, true, true, true, false, true, true, false, false, true, false, false, false] rfl rfl (any_of HT_.out (by kernel_rfl)) (fun _ _ _ h => h) (Or.inl ⟨by rfl, ?_⟩) ?_ ?_
                rotate_left
                ·intro w'
                 go_simp
                 with_reducible rfl
                rotate_left
                ·simp only [Act.put, List.setIfInBounds_toArray, List.set_cons_zero, List.set_cons_succ, i64_w, i32_w]
                 rfl
                refine pure_ (i := 8) (N := some 67) (v := ?_) (a' := ?_) #[true, true, true, true, true, true, true, true, true, true, true, false, false, true, false, false, false] rfl rfl (any_of HT_.out (by kernel_rfl)) (fun _ _ _ h => h) (Or.inl ⟨by rfl, ?_⟩) ?_ ?_
                rotate_left
                ·intro w'
                 go_simp
                 with_reducible rfl
                rotate_left
                ·simp only [Act.put, List.setIfInBounds_toArray, List.set_cons_zero, List.set_cons_succ, i64_w, i32_w]
                 rfl
                refine pure_ (i := 11) (N := some 70) (v := ?_) (a' := ?_) #[true, true, true, true, true, true, true, true, true, true, true, true, false, true, false, false, false] rfl rfl (any_of HT_.out (by kernel_rfl)) (fun _ _ _ h => h) (Or.inl ⟨by rfl, ?_⟩) ?_ ?_
                rotate_left
                ·intro w'
                 go_simp
                 with_reducible rfl
                rotate_left
                ·simp only [Act.put, List.setIfInBounds_toArray, List.set_cons_zero, List.set_cons_succ, i64_w, i32_w]
                 rfl
                refine pure_ (i := 12) (N := some 71) (v := ?_) (a' := ?_) #[true, true, true, true, true, true, true, true, true, true, true, true, true, true, false, false, false] rfl rfl (any_of HT_.out (by kernel_rfl)) (fun _ _ _ h => h) (Or.inl ⟨by rfl, ?_⟩) ?_ ?_
                rotate_left
                ·intro w'
                 go_simp
                 with_reducible rfl
                rotate_left
                ·simp only [Act.put, List.setIfInBounds_toArray, List.set_cons_zero, List.set_cons_succ, i64_w, i32_w]
                 rfl
                refine pure_ (i := 14) (N := some 73) (v := ?_) (a' := ?_) #[true, true, true, true, true, true, true, true, true, true, true, true, true, true, true, false, false] rfl rfl (any_of HT_.out (by kernel_rfl)) (fun _ _ _ h => h) (Or.inl ⟨by rfl, ?_⟩) ?_ ?_
                rotate_left
                ·intro w'
                 go_simp
                 with_reducible rfl
                rotate_left
                ·simp only [Act.put, List.setIfInBounds_toArray, List.set_cons_zero, List.set_cons_succ, i64_w, i32_w]
                 rfl
                refine pure_ (i := 15) (N := some 74) (v := ?_) (a' := ?_) #[true, true, true, true, true, true, true, true, true, true, true, true, true, true, true, true, false] rfl rfl (any_of HT_.out (by kernel_rfl)) (fun _ _ _ h => h) (Or.inl ⟨by rfl, ?_⟩) ?_ ?_
                rotate_left
                ·intro w'
                 go_simp
                 with_reducible rfl
                rotate_left
                ·simp only [Act.put, List.setIfInBounds_toArray, List.set_cons_zero, List.set_cons_succ, i64_w, i32_w]
                 rfl
                refine pure_ (i := 16) (N := some 5) (v := ?_) (a' := ?_) #[true, true, true, true, true, true, true, true, true, true, true, true, true, true, true, true, true] rfl rfl (any_of HT_.out (by kernel_rfl)) (fun _ _ _ h => h) (Or.inl ⟨by rfl, ?_⟩) ?_ ?_
                rotate_left
                ·intro w'
                 go_simp
                 with_reducible rfl
                rotate_left
                ·simp only [Act.put, List.setIfInBounds_toArray, List.set_cons_zero, List.set_cons_succ, i64_w, i32_w]
                 rfl
                refine done_ (done_of HT_.out (by kernel_rfl)) ?_
                try go_wp2
                go_roundg k1
                case measure => have := HK1.out; omega
                case rel => exact ⟨((((((((x5_1 ++ t211) ++ (⟨#[115, 116, 111, 114, 101, 32]⟩ : ByteArray)) ++ t213) ++ (⟨#[32]⟩ : ByteArray)) ++ ((rd_T45 l0 x6_1).f3)) ++ (⟨#[32]⟩ : ByteArray)) ++ t210) ++ (⟨#[59, 10]⟩ : ByteArray)), (wrap64 (x6_1 + 1)), (by first | rfl | (simp; done) | (simp [*]; done)), (by first | rfl | (simp; done) | (simp [*]; done)), H', ⟨by have := HK1.out; omega⟩, ⟨by repeat (first | (with_reducible first | exact HB.out | apply below_alloc | apply pw_below_drewN | apply below_drew1 | refine below_set ?_ GE209.out) | exact HB.out)⟩⟩
               ·rw [if_neg c40] at H
                exact absurd H (by simp)
              ·rw [if_neg c39] at H
               exact absurd H (by simp)
             ·rw [if_neg c38] at H
              exact absurd H (by simp)
            ·rw [if_neg c37] at H
             exact absurd H (by simp)
           ·rw [if_neg c36] at H
            exact absurd H (by simp)
          ·rw [if_neg c35] at H
           exact absurd H (by simp)
         ·rw [if_neg c33] at H
          exact absurd H (by simp)
        ·rw [if_neg c32] at H
         exact absurd H (by simp)
       ·rw [if_neg c31] at H
        have c31b0 : (((rd_T45 l0 x6_1).f0) == 3) = false := beq_eq_false_iff_ne.mpr c31
        have c31b1 : (((rd_T45 l0 x6_1).f0) != 3) = true := bne_iff_ne.mpr c31
        by_cases c46 : ((rd_T45 l0 x6_1).f0) = 4
        ·rw [if_pos c46] at H
         have c46b0 : (((rd_T45 l0 x6_1).f0) == 4) = true := beq_iff_eq.mpr c46
         have c46b1 : (((rd_T45 l0 x6_1).f0) != 4) = false := bne_eq_false_iff_eq.mpr c46
         clear c46
         by_cases c47 : x5_1.size + t211.size ≤ 9223372036854775807
         ·rw [if_pos c47] at H
          have c47b0 := eq_true c47
          have c47b1 : decide (x5_1.size + t211.size ≤ 9223372036854775807) = true := decide_eq_true c47
          try have c47b2 : (9223372036854775807 < x5_1.size + t211.size) = False := eq_false (Nat.not_lt.2 c47)
          by_cases c48 : (x5_1 ++ t211).size + ((rd_T45 l0 x6_1).f2).size ≤ 9223372036854775807
          ·rw [if_pos c48] at H
           have c48b0 := eq_true c48
           have c48b1 : decide ((x5_1 ++ t211).size + ((rd_T45 l0 x6_1).f2).size ≤ 9223372036854775807) = true := decide_eq_true c48
           try (have c48b1s := c48b1; simp only [ByteArray.size_append] at c48b1s)
           try have c48b2 : (9223372036854775807 < (x5_1 ++ t211).size + ((rd_T45 l0 x6_1).f2).size) = False := eq_false (Nat.not_lt.2 c48)
           try (have c48b2s := c48b2; simp only [ByteArray.size_append] at c48b2s)
           by_cases c49 : ((x5_1 ++ t211) ++ ((rd_T45 l0 x6_1).f2)).size + 7 ≤ 9223372036854775807
           ·rw [if_pos c49] at H
            have c49b0 := eq_true c49
            have c49b1 : decide (((x5_1 ++ t211) ++ ((rd_T45 l0 x6_1).f2)).size + 7 ≤ 9223372036854775807) = true := decide_eq_true c49
            try (have c49b1s := c49b1; simp only [ByteArray.size_append] at c49b1s)
            try have c49b2 : (9223372036854775807 < ((x5_1 ++ t211) ++ ((rd_T45 l0 x6_1).f2)).size + 7) = False := eq_false (Nat.not_lt.2 c49)
            try (have c49b2s := c49b2; simp only [ByteArray.size_append] at c49b2s)
            replace H := Option.bind_eq_some_iff.mp H
            obtain ⟨t214, A500, H⟩ := H
            replace H : (if (((x5_1 ++ t211) ++ ((rd_T45 l0 x6_1).f2)) ++ (⟨#[32, 61, 32, 97, 100, 100, 32]⟩ : ByteArray)).size + t214.size ≤ 9223372036854775807 then (if ((((x5_1 ++ t211) ++ ((rd_T45 l0 x6_1).f2)) ++ (⟨#[32, 61, 32, 97, 100, 100, 32]⟩ : ByteArray)) ++ t214).size + 1 ≤ 9223372036854775807 then (if (((((x5_1 ++ t211) ++ ((rd_T45 l0 x6_1).f2)) ++ (⟨#[32, 61, 32, 97, 100, 100, 32]⟩ : ByteArray)) ++ t214) ++ (⟨#[32]⟩ : ByteArray)).size + ((rd_T45 l0 x6_1).f3).size ≤ 9223372036854775807 then (if ((((((x5_1 ++ t211) ++ ((rd_T45 l0 x6_1).f2)) ++ (⟨#[32, 61, 32, 97, 100, 100, 32]⟩ : ByteArray)) ++ t214) ++ (⟨#[32]⟩ : ByteArray)) ++ ((rd_T45 l0 x6_1).f3)).size + 1 ≤ 9223372036854775807 then (if (((((((x5_1 ++ t211) ++ ((rd_T45 l0 x6_1).f2)) ++ (⟨#[32, 61, 32, 97, 100, 100, 32]⟩ : ByteArray)) ++ t214) ++ (⟨#[32]⟩ : ByteArray)) ++ ((rd_T45 l0 x6_1).f3)) ++ (⟨#[32]⟩ : ByteArray)).size + t210.size ≤ 9223372036854775807 then (if ((((((((x5_1 ++ t211) ++ ((rd_T45 l0 x6_1).f2)) ++ (⟨#[32, 61, 32, 97, 100, 100, 32]⟩ : ByteArray)) ++ t214) ++ (⟨#[32]⟩ : ByteArray)) ++ ((rd_T45 l0 x6_1).f3)) ++ (⟨#[32]⟩ : ByteArray)) ++ t210).size + 2 ≤ 9223372036854775807 then (witheref6_lines.l0 k1 l0 a1 (((((((((x5_1 ++ t211) ++ ((rd_T45 l0 x6_1).f2)) ++ (⟨#[32, 61, 32, 97, 100, 100, 32]⟩ : ByteArray)) ++ t214) ++ (⟨#[32]⟩ : ByteArray)) ++ ((rd_T45 l0 x6_1).f3)) ++ (⟨#[32]⟩ : ByteArray)) ++ t210) ++ (⟨#[59, 10]⟩ : ByteArray)) (wrap64 (x6_1 + 1))) else (none)) else (none)) else (none)) else (none)) else (none)) else (none)) = some r := H
            have A50 := Aside0.mk A500
            clear A500
            by_cases c51 : (((x5_1 ++ t211) ++ ((rd_T45 l0 x6_1).f2)) ++ (⟨#[32, 61, 32, 97, 100, 100, 32]⟩ : ByteArray)).size + t214.size ≤ 9223372036854775807
            ·rw [if_pos c51] at H
             have c51b0 := eq_true c51
             have c51b1 : decide ((((x5_1 ++ t211) ++ ((rd_T45 l0 x6_1).f2)) ++ (⟨#[32, 61, 32, 97, 100, 100, 32]⟩ : ByteArray)).size + t214.size ≤ 9223372036854775807) = true := decide_eq_true c51
             try (have c51b1s := c51b1; simp only [ByteArray.size_append, show (⟨#[32, 61, 32, 97, 100, 100, 32]⟩ : ByteArray).size = 7 from rfl] at c51b1s)
             try have c51b2 : (9223372036854775807 < (((x5_1 ++ t211) ++ ((rd_T45 l0 x6_1).f2)) ++ (⟨#[32, 61, 32, 97, 100, 100, 32]⟩ : ByteArray)).size + t214.size) = False := eq_false (Nat.not_lt.2 c51)
             try (have c51b2s := c51b2; simp only [ByteArray.size_append, show (⟨#[32, 61, 32, 97, 100, 100, 32]⟩ : ByteArray).size = 7 from rfl] at c51b2s)
             by_cases c52 : ((((x5_1 ++ t211) ++ ((rd_T45 l0 x6_1).f2)) ++ (⟨#[32, 61, 32, 97, 100, 100, 32]⟩ : ByteArray)) ++ t214).size + 1 ≤ 9223372036854775807
             ·rw [if_pos c52] at H
              have c52b0 := eq_true c52
              have c52b1 : decide (((((x5_1 ++ t211) ++ ((rd_T45 l0 x6_1).f2)) ++ (⟨#[32, 61, 32, 97, 100, 100, 32]⟩ : ByteArray)) ++ t214).size + 1 ≤ 9223372036854775807) = true := decide_eq_true c52
              try (have c52b1s := c52b1; simp only [ByteArray.size_append, show (⟨#[32, 61, 32, 97, 100, 100, 32]⟩ : ByteArray).size = 7 from rfl] at c52b1s)
              try have c52b2 : (9223372036854775807 < ((((x5_1 ++ t211) ++ ((rd_T45 l0 x6_1).f2)) ++ (⟨#[32, 61, 32, 97, 100, 100, 32]⟩ : ByteArray)) ++ t214).size + 1) = False := eq_false (Nat.not_lt.2 c52)
              try (have c52b2s := c52b2; simp only [ByteArray.size_append, show (⟨#[32, 61, 32, 97, 100, 100, 32]⟩ : ByteArray).size = 7 from rfl] at c52b2s)
              by_cases c53 : (((((x5_1 ++ t211) ++ ((rd_T45 l0 x6_1).f2)) ++ (⟨#[32, 61, 32, 97, 100, 100, 32]⟩ : ByteArray)) ++ t214) ++ (⟨#[32]⟩ : ByteArray)).size + ((rd_T45 l0 x6_1).f3).size ≤ 9223372036854775807
              ·rw [if_pos c53] at H
               have c53b0 := eq_true c53
               have c53b1 : decide ((((((x5_1 ++ t211) ++ ((rd_T45 l0 x6_1).f2)) ++ (⟨#[32, 61, 32, 97, 100, 100, 32]⟩ : ByteArray)) ++ t214) ++ (⟨#[32]⟩ : ByteArray)).size + ((rd_T45 l0 x6_1).f3).size ≤ 9223372036854775807) = true := decide_eq_true c53
               try (have c53b1s := c53b1; simp only [ByteArray.size_append, show (⟨#[32, 61, 32, 97, 100, 100, 32]⟩ : ByteArray).size = 7 from rfl, show (⟨#[32]⟩ : ByteArray).size = 1 from rfl] at c53b1s)
               try have c53b2 : (9223372036854775807 < (((((x5_1 ++ t211) ++ ((rd_T45 l0 x6_1).f2)) ++ (⟨#[32, 61, 32, 97, 100, 100, 32]⟩ : ByteArray)) ++ t214) ++ (⟨#[32]⟩ : ByteArray)).size + ((rd_T45 l0 x6_1).f3).size) = False := eq_false (Nat.not_lt.2 c53)
               try (have c53b2s := c53b2; simp only [ByteArray.size_append, show (⟨#[32, 61, 32, 97, 100, 100, 32]⟩ : ByteArray).size = 7 from rfl, show (⟨#[32]⟩ : ByteArray).size = 1 from rfl] at c53b2s)
               by_cases c54 : ((((((x5_1 ++ t211) ++ ((rd_T45 l0 x6_1).f2)) ++ (⟨#[32, 61, 32, 97, 100, 100, 32]⟩ : ByteArray)) ++ t214) ++ (⟨#[32]⟩ : ByteArray)) ++ ((rd_T45 l0 x6_1).f3)).size + 1 ≤ 9223372036854775807
               ·rw [if_pos c54] at H
                have c54b0 := eq_true c54
                have c54b1 : decide (((((((x5_1 ++ t211) ++ ((rd_T45 l0 x6_1).f2)) ++ (⟨#[32, 61, 32, 97, 100, 100, 32]⟩ : ByteArray)) ++ t214) ++ (⟨#[32]⟩ : ByteArray)) ++ ((rd_T45 l0 x6_1).f3)).size + 1 ≤ 9223372036854775807) = true := decide_eq_true c54
                try (have c54b1s := c54b1; simp only [ByteArray.size_append, show (⟨#[32, 61, 32, 97, 100, 100, 32]⟩ : ByteArray).size = 7 from rfl, show (⟨#[32]⟩ : ByteArray).size = 1 from rfl] at c54b1s)
                try have c54b2 : (9223372036854775807 < ((((((x5_1 ++ t211) ++ ((rd_T45 l0 x6_1).f2)) ++ (⟨#[32, 61, 32, 97, 100, 100, 32]⟩ : ByteArray)) ++ t214) ++ (⟨#[32]⟩ : ByteArray)) ++ ((rd_T45 l0 x6_1).f3)).size + 1) = False := eq_false (Nat.not_lt.2 c54)
                try (have c54b2s := c54b2; simp only [ByteArray.size_append, show (⟨#[32, 61, 32, 97, 100, 100, 32]⟩ : ByteArray).size = 7 from rfl, show (⟨#[32]⟩ : ByteArray).size = 1 from rfl] at c54b2s)
                by_cases c55 : (((((((x5_1 ++ t211) ++ ((rd_T45 l0 x6_1).f2)) ++ (⟨#[32, 61, 32, 97, 100, 100, 32]⟩ : ByteArray)) ++ t214) ++ (⟨#[32]⟩ : ByteArray)) ++ ((rd_T45 l0 x6_1).f3)) ++ (⟨#[32]⟩ : ByteArray)).size + t210.size ≤ 9223372036854775807
                ·rw [if_pos c55] at H
                 have c55b0 := eq_true c55
                 have c55b1 : decide ((((((((x5_1 ++ t211) ++ ((rd_T45 l0 x6_1).f2)) ++ (⟨#[32, 61, 32, 97, 100, 100, 32]⟩ : ByteArray)) ++ t214) ++ (⟨#[32]⟩ : ByteArray)) ++ ((rd_T45 l0 x6_1).f3)) ++ (⟨#[32]⟩ : ByteArray)).size + t210.size ≤ 9223372036854775807) = true := decide_eq_true c55
                 try (have c55b1s := c55b1; simp only [ByteArray.size_append, show (⟨#[32, 61, 32, 97, 100, 100, 32]⟩ : ByteArray).size = 7 from rfl, show (⟨#[32]⟩ : ByteArray).size = 1 from rfl] at c55b1s)
                 try have c55b2 : (9223372036854775807 < (((((((x5_1 ++ t211) ++ ((rd_T45 l0 x6_1).f2)) ++ (⟨#[32, 61, 32, 97, 100, 100, 32]⟩ : ByteArray)) ++ t214) ++ (⟨#[32]⟩ : ByteArray)) ++ ((rd_T45 l0 x6_1).f3)) ++ (⟨#[32]⟩ : ByteArray)).size + t210.size) = False := eq_false (Nat.not_lt.2 c55)
                 try (have c55b2s := c55b2; simp only [ByteArray.size_append, show (⟨#[32, 61, 32, 97, 100, 100, 32]⟩ : ByteArray).size = 7 from rfl, show (⟨#[32]⟩ : ByteArray).size = 1 from rfl] at c55b2s)
                 by_cases c56 : ((((((((x5_1 ++ t211) ++ ((rd_T45 l0 x6_1).f2)) ++ (⟨#[32, 61, 32, 97, 100, 100, 32]⟩ : ByteArray)) ++ t214) ++ (⟨#[32]⟩ : ByteArray)) ++ ((rd_T45 l0 x6_1).f3)) ++ (⟨#[32]⟩ : ByteArray)) ++ t210).size + 2 ≤ 9223372036854775807
                 ·rw [if_pos c56] at H
                  have c56b0 := eq_true c56
                  have c56b1 : decide (((((((((x5_1 ++ t211) ++ ((rd_T45 l0 x6_1).f2)) ++ (⟨#[32, 61, 32, 97, 100, 100, 32]⟩ : ByteArray)) ++ t214) ++ (⟨#[32]⟩ : ByteArray)) ++ ((rd_T45 l0 x6_1).f3)) ++ (⟨#[32]⟩ : ByteArray)) ++ t210).size + 2 ≤ 9223372036854775807) = true := decide_eq_true c56
                  try (have c56b1s := c56b1; simp only [ByteArray.size_append, show (⟨#[32, 61, 32, 97, 100, 100, 32]⟩ : ByteArray).size = 7 from rfl, show (⟨#[32]⟩ : ByteArray).size = 1 from rfl] at c56b1s)
                  try have c56b2 : (9223372036854775807 < ((((((((x5_1 ++ t211) ++ ((rd_T45 l0 x6_1).f2)) ++ (⟨#[32, 61, 32, 97, 100, 100, 32]⟩ : ByteArray)) ++ t214) ++ (⟨#[32]⟩ : ByteArray)) ++ ((rd_T45 l0 x6_1).f3)) ++ (⟨#[32]⟩ : ByteArray)) ++ t210).size + 2) = False := eq_false (Nat.not_lt.2 c56)
                  try (have c56b2s := c56b2; simp only [ByteArray.size_append, show (⟨#[32, 61, 32, 97, 100, 100, 32]⟩ : ByteArray).size = 7 from rfl, show (⟨#[32]⟩ : ByteArray).size = 1 from rfl] at c56b2s)
                  have H' := Aside0.mk H
                  clear H
                  have p208 : 0 ≤ (x6_1 : Int) := of_decide_eq_true (by first | (with_reducible assumption) | assumption)
                  have q208 : x6_1 < (l0.length : Int) := of_decide_eq_true (by first | (with_reducible assumption) | assumption)
                  obtain ⟨ad208, A208_4, c208_4, A208_5, c208_5, A208_6, c208_6, e208, hx208_0, hx208_1, hx208_2, hx208_3, hx208_4, hx208_5, hx208_6, hl208_4, hi208_4, hl208_5, hi208_5, hl208_6, hi208_6⟩ := at_T45 HR0.out x6_1 p208 q208
                  cases e208
                  replace hx208_0 := (HB.out.cell (World.block_lt_of_cell? w _ hx208_0)).trans hx208_0
                  replace hx208_1 := (HB.out.cell (World.block_lt_of_cell? w _ hx208_1)).trans hx208_1
                  replace hx208_2 := (HB.out.cell (World.block_lt_of_cell? w _ hx208_2)).trans hx208_2
                  replace hx208_3 := (HB.out.cell (World.block_lt_of_cell? w _ hx208_3)).trans hx208_3
                  replace hx208_4 := (HB.out.cell (World.block_lt_of_cell? w _ hx208_4)).trans hx208_4
                  replace hx208_5 := (HB.out.cell (World.block_lt_of_cell? w _ hx208_5)).trans hx208_5
                  replace hx208_6 := (HB.out.cell (World.block_lt_of_cell? w _ hx208_6)).trans hx208_6
                  have HR208_4 := Aside0.mk hi208_4
                  have HC208_4 := Aside0.mk hl208_4
                  clear hi208_4 hl208_4
                  have HR208_5 := Aside0.mk hi208_5
                  have HC208_5 := Aside0.mk hl208_5
                  clear hi208_5 hl208_5
                  have HR208_6 := Aside0.mk hi208_6
                  have HC208_6 := Aside0.mk hl208_6
                  clear hi208_6 hl208_6
                  replace p208 := eq_true p208
                  replace q208 := eq_true q208
                  try go_wp2_with (first | ((with_reducible refine gate_dst (N := 7) rfl ?_); refine box_event ?hg (N := 7) ?hd (cs := #[.int .i64 0, .int .i64 0, .string (⟨#[]⟩ : ByteArray), .string (⟨#[]⟩ : ByteArray), .slice none 0 0, .slice none 0 0, .slice none 0 0]) (t := 45) ?hr ?_; (case hd => rfl); (case hg => rfl); (case hr => first | (go_simp; done) | (go_simp; rfl)); intro gb209 hg w57 hbox hb; have n0_ := Aside0.mk (below_step (by repeat (first | (with_reducible first | exact HB.out | apply below_alloc | apply pw_below_drewN | apply below_drew1) | exact HB.out)) hb); have n1_ := Aside0.mk (hbox); have n2_ := Aside0.mk ((by rw [hg]; exact (below_size (by repeat (first | (with_reducible first | exact HB.out | apply below_alloc | apply pw_below_drewN | apply below_drew1) | exact HB.out))) : w.heap.size ≤ gb209)); have n3_ := Aside0.mk ((by rw [hg]; exact (below_size (by repeat (first | (with_reducible first | exact HB.out | apply below_alloc | apply pw_below_drewN | apply below_drew1) | exact HB.out))) : w.heap.size ≤ gb209)); clear HB; have HB := n0_; have BK209 := n1_; have GW209 := n2_; have GE209 := n3_; clear n0_ n1_ n2_ n3_; clear hb hbox hg; have hcz58_0 : w57.cell? ⟨gb209, 0, none⟩ = some (.int .i64 0) := (blk_cell BK209.out 0).trans rfl; have hcz58_1 : w57.cell? ⟨gb209, 1, none⟩ = some (.int .i64 0) := (blk_cell BK209.out 1).trans rfl; have hcz58_2 : w57.cell? ⟨gb209, 2, none⟩ = some (.string (⟨#[]⟩ : ByteArray)) := (blk_cell BK209.out 2).trans rfl; have hcz58_3 : w57.cell? ⟨gb209, 3, none⟩ = some (.string (⟨#[]⟩ : ByteArray)) := (blk_cell BK209.out 3).trans rfl; have hcz58_4 : w57.cell? ⟨gb209, 4, none⟩ = some (.slice none 0 0) := (blk_cell BK209.out 4).trans rfl; have hcz58_5 : w57.cell? ⟨gb209, 5, none⟩ = some (.slice none 0 0) := (blk_cell BK209.out 5).trans rfl; have hcz58_6 : w57.cell? ⟨gb209, 6, none⟩ = some (.slice none 0 0) := (blk_cell BK209.out 6).trans rfl; have hfz58_0 := blk_frozen BK209.out 0; have hfz58_1 := blk_frozen BK209.out 1; have hfz58_2 := blk_frozen BK209.out 2; have hfz58_3 := blk_frozen BK209.out 3; have hfz58_4 := blk_frozen BK209.out 4; have hfz58_5 := blk_frozen BK209.out 5; have hfz58_6 := blk_frozen BK209.out 6) | ((with_reducible refine gate_callee (f := 25) rfl ?_); refine goesL_ (some 22) rfl rfl Tryd.func25 (by kernel_rfl) rfl #[.slice A208_4 ((rd_T45 l0 x6_1).f4).length c208_4, .int .i64 0] rfl (by (try simp only [List.map_toArray, List.map_cons, List.map_nil]); first | done | rfl | (simp only [List.length_drop, List.length_take]; rfl)) ?_; (with_reducible refine (witheref6_kid.calls k1 _ _ ((rd_T45 l0 x6_1).f4) 0 t210 _ ?side1 ?side2 A5.out).mono ?_); (case side1 => exact Kd.C_below HR208_4.out (by repeat (first | (with_reducible first | exact HB.out | apply below_alloc | apply pw_below_drewN | apply below_drew1 | refine below_set ?_ GE209.out) | exact HB.out))); (case side2 => exact HC208_4.out); rintro e w59 ⟨rfl, hb⟩; refine ⟨_, rfl, ?_⟩; have n0_ := Aside0.mk (blk_below (g := gb209) (o := .cells #[.int .i64 ((rd_T45 l0 x6_1).f0), .int .i64 ((rd_T45 l0 x6_1).f1), .string ((rd_T45 l0 x6_1).f2), .string ((rd_T45 l0 x6_1).f3), .slice A208_4 ((rd_T45 l0 x6_1).f4).length c208_4, .slice A208_5 ((rd_T45 l0 x6_1).f5).length c208_5, .slice A208_6 ((rd_T45 l0 x6_1).f6).length c208_6] 45 (0, 0)) (by (with_reducible repeat (first | refine blk_drewN ?_ _ | refine blk_drew ?_ | refine blk_alloc ?_ _)); refine blk_put (cs := #[.int .i64 ((rd_T45 l0 x6_1).f0), .int .i64 ((rd_T45 l0 x6_1).f1), .string ((rd_T45 l0 x6_1).f2), .string ((rd_T45 l0 x6_1).f3), .slice A208_4 ((rd_T45 l0 x6_1).f4).length c208_4, .slice A208_5 ((rd_T45 l0 x6_1).f5).length c208_5, .slice none 0 0]) ?_ 6 _ rfl; (with_reducible repeat (first | refine blk_drewN ?_ _ | refine blk_drew ?_ | refine blk_alloc ?_ _)); refine blk_put (cs := #[.int .i64 ((rd_T45 l0 x6_1).f0), .int .i64 ((rd_T45 l0 x6_1).f1), .string ((rd_T45 l0 x6_1).f2), .string ((rd_T45 l0 x6_1).f3), .slice A208_4 ((rd_T45 l0 x6_1).f4).length c208_4, .slice none 0 0, .slice none 0 0]) ?_ 5 _ rfl; (with_reducible repeat (first | refine blk_drewN ?_ _ | refine blk_drew ?_ | refine blk_alloc ?_ _)); refine blk_put (cs := #[.int .i64 ((rd_T45 l0 x6_1).f0), .int .i64 ((rd_T45 l0 x6_1).f1), .string ((rd_T45 l0 x6_1).f2), .string ((rd_T45 l0 x6_1).f3), .slice none 0 0, .slice none 0 0, .slice none 0 0]) ?_ 4 _ rfl; (with_reducible repeat (first | refine blk_drewN ?_ _ | refine blk_drew ?_ | refine blk_alloc ?_ _)); refine blk_put (cs := #[.int .i64 ((rd_T45 l0 x6_1).f0), .int .i64 ((rd_T45 l0 x6_1).f1), .string ((rd_T45 l0 x6_1).f2), .string (⟨#[]⟩ : ByteArray), .slice none 0 0, .slice none 0 0, .slice none 0 0]) ?_ 3 _ rfl; (with_reducible repeat (first | refine blk_drewN ?_ _ | refine blk_drew ?_ | refine blk_alloc ?_ _)); refine blk_put (cs := #[.int .i64 ((rd_T45 l0 x6_1).f0), .int .i64 ((rd_T45 l0 x6_1).f1), .string (⟨#[]⟩ : ByteArray), .string (⟨#[]⟩ : ByteArray), .slice none 0 0, .slice none 0 0, .slice none 0 0]) ?_ 2 _ rfl; (with_reducible repeat (first | refine blk_drewN ?_ _ | refine blk_drew ?_ | refine blk_alloc ?_ _)); refine blk_put (cs := #[.int .i64 ((rd_T45 l0 x6_1).f0), .int .i64 0, .string (⟨#[]⟩ : ByteArray), .string (⟨#[]⟩ : ByteArray), .slice none 0 0, .slice none 0 0, .slice none 0 0]) ?_ 1 _ rfl; (with_reducible repeat (first | refine blk_drewN ?_ _ | refine blk_drew ?_ | refine blk_alloc ?_ _)); refine blk_put (cs := #[.int .i64 0, .int .i64 0, .string (⟨#[]⟩ : ByteArray), .string (⟨#[]⟩ : ByteArray), .slice none 0 0, .slice none 0 0, .slice none 0 0]) ?_ 0 _ rfl; (with_reducible repeat (first | refine blk_drewN ?_ _ | refine blk_drew ?_ | refine blk_alloc ?_ _)); exact BK209.out) hb); have n1_ := Aside0.mk (below_step (by repeat (first | (with_reducible first | exact HB.out | apply below_alloc | apply pw_below_drewN | apply below_drew1 | refine below_set ?_ GE209.out) | exact HB.out)) hb); clear BK209; clear HB; have BK209 := n0_; have HB := n1_; clear n0_ n1_; (try clear hb); (try clear hb2); (try clear hk); (try clear hi)) | ((with_reducible refine gate_callee (f := 34) rfl ?_); refine goesL_ (some 24) rfl rfl Tryd.func34 (by kernel_rfl) rfl #[.int .i64 a1] rfl (by (try simp only [List.map_toArray, List.map_cons, List.map_nil]); first | done | rfl | (simp only [List.length_drop, List.length_take]; rfl)) ?_; (with_reducible refine (witheref6_in.calls k1 a1 t211 _ A6.out).mono ?_); rintro e w' ⟨rfl, ⟨nd, rfl⟩⟩; refine ⟨_, rfl, ?_⟩; have hcz60_0 : w59.cell? ⟨gb209, 0, none⟩ = some (.int .i64 ((rd_T45 l0 x6_1).f0)) := (blk_cell BK209.out 0).trans rfl; have hcz60_1 : w59.cell? ⟨gb209, 1, none⟩ = some (.int .i64 ((rd_T45 l0 x6_1).f1)) := (blk_cell BK209.out 1).trans rfl; have hcz60_2 : w59.cell? ⟨gb209, 2, none⟩ = some (.string ((rd_T45 l0 x6_1).f2)) := (blk_cell BK209.out 2).trans rfl; have hcz60_3 : w59.cell? ⟨gb209, 3, none⟩ = some (.string ((rd_T45 l0 x6_1).f3)) := (blk_cell BK209.out 3).trans rfl; have hcz60_4 : w59.cell? ⟨gb209, 4, none⟩ = some (.slice A208_4 ((rd_T45 l0 x6_1).f4).length c208_4) := (blk_cell BK209.out 4).trans rfl; have hcz60_5 : w59.cell? ⟨gb209, 5, none⟩ = some (.slice A208_5 ((rd_T45 l0 x6_1).f5).length c208_5) := (blk_cell BK209.out 5).trans rfl; have hcz60_6 : w59.cell? ⟨gb209, 6, none⟩ = some (.slice A208_6 ((rd_T45 l0 x6_1).f6).length c208_6) := (blk_cell BK209.out 6).trans rfl; have hfz60_0 := blk_frozen BK209.out 0; have hfz60_1 := blk_frozen BK209.out 1; have hfz60_2 := blk_frozen BK209.out 2; have hfz60_3 := blk_frozen BK209.out 3; have hfz60_4 := blk_frozen BK209.out 4; have hfz60_5 := blk_frozen BK209.out 5; have hfz60_6 := blk_frozen BK209.out 6))
                  (try (rw [drewN_self w59]; generalize hq_ : World.drewN w59 _ = w59; have n0_ : Aside0 (w59.heap[gb209]? = some (.cells #[.int .i64 ((rd_T45 l0 x6_1).f0), .int .i64 ((rd_T45 l0 x6_1).f1), .string ((rd_T45 l0 x6_1).f2), .string ((rd_T45 l0 x6_1).f3), .slice A208_4 ((rd_T45 l0 x6_1).f4).length c208_4, .slice A208_5 ((rd_T45 l0 x6_1).f5).length c208_5, .slice A208_6 ((rd_T45 l0 x6_1).f6).length c208_6] 45 (0, 0))) := ⟨by rw [← hq_]; exact (by (with_reducible repeat (first | refine blk_drewN ?_ _ | refine blk_drew ?_ | refine blk_alloc ?_ _)); exact BK209.out)⟩; have n1_ : Aside0 (Below w.heap.size w w59) := ⟨by rw [← hq_]; exact (by repeat (first | (with_reducible first | exact HB.out | apply below_alloc | apply pw_below_drewN | apply below_drew1 | refine below_set ?_ GE209.out) | exact HB.out))⟩; clear BK209 HB hq_; have BK209 := n0_; have HB := n1_; clear n0_ n1_))
                  have n0_ := Aside0.mk (blk_drew BK209.out)
                  have n1_ := Aside0.mk (below_drew1 HB.out)
                  clear BK209
                  clear HB
                  have BK209 := n0_
                  have HB := n1_
                  clear n0_ n1_
                  refine start_ (n := 20) (S := fun w' => w'.cell? ⟨gb209, 0, none⟩ = some (.int .i64 ((rd_T45 l0 x6_1).f0)) ∧ w'.cell? ⟨gb209, 1, none⟩ = some (.int .i64 ((rd_T45 l0 x6_1).f1)) ∧ w'.cell? ⟨gb209, 2, none⟩ = some (.string ((rd_T45 l0 x6_1).f2)) ∧ w'.cell? ⟨gb209, 3, none⟩ = some (.string ((rd_T45 l0 x6_1).f3)) ∧ w'.cell? ⟨gb209, 4, none⟩ = some (.slice A208_4 ((rd_T45 l0 x6_1).f4).length c208_4) ∧ w'.cell? ⟨gb209, 5, none⟩ = some (.slice A208_5 ((rd_T45 l0 x6_1).f5).length c208_5) ∧ w'.cell? ⟨gb209, 6, none⟩ = some (.slice A208_6 ((rd_T45 l0 x6_1).f6).length c208_6)) (ds := []) #[false, false, false, false, false, false, false, false, false, false, false, false, false, false, false, false, false, false, false, false] (by kernel_rfl) rfl rfl ⟨(blk_cell BK209.out 0).trans rfl, (blk_cell BK209.out 1).trans rfl, (blk_cell BK209.out 2).trans rfl, (blk_cell BK209.out 3).trans rfl, (blk_cell BK209.out 4).trans rfl, (blk_cell BK209.out 5).trans rfl, (blk_cell BK209.out 6).trans rfl⟩ (fun hHeld => ?_); refine with_tabW witheref6_lines.tab16 witheref6_lines.bits16 (fun HT_ HW_ => ?_)
                  generalize w59.drew = w61 at BK209 HB hHeld ⊢
                  refine pure_ (i := 0) (N := some 77) (v := ?_) (a' := ?_) #[true, false, false, false, false, false, false, false, false, false, false, false, false, false, false, false, false, false, false, false] rfl rfl (any_of HT_.out (by kernel_rfl)) (fun _ _ _ h => h) (Or.inl ⟨by rfl, ?_⟩) ?_ ?_
                  rotate_left
                  ·intro w'
                   go_simp
                   with_reducible rfl
                  rotate_left
                  ·simp only [Act.put, List.setIfInBounds_toArray, List.set_cons_zero, List.set_cons_succ, i64_w, i32_w]
                   rfl
                  refine pure_ (i := 1) (N := some 78) (v := ?_) (a' := ?_) #[true, true, false, false, false, false, false, false, false, false, false, false, false, false, false, false, false, false, false, false] rfl rfl (any_of HT_.out (by kernel_rfl)) (fun _ _ _ h => h) (Or.inl ⟨by rfl, ?_⟩) ?_ ?_
                  rotate_left
                  ·intro w'
                   go_simp
                   with_reducible rfl
                  rotate_left
                  ·simp only [Act.put, List.setIfInBounds_toArray, List.set_cons_zero, List.set_cons_succ, i64_w, i32_w]
                   rfl
                  refine pure_ (i := 2) (N := some 79) (v := ?_) (a' := ?_) #[true, true, true, false, false, false, false, false, false, false, false, false, false, false, false, false, false, false, false, false] rfl rfl (any_of HT_.out (by kernel_rfl)) (fun _ _ _ h => h) (Or.inl ⟨by rfl, ?_⟩) ?_ ?_
                  rotate_left
                  ·intro w'
                   go_simp
                   with_reducible rfl
                  rotate_left
                  ·simp only [Act.put, List.setIfInBounds_toArray, List.set_cons_zero, List.set_cons_succ, i64_w, i32_w]
                   rfl
                  refine pure_ (i := 3) (N := some 80) (v := ?_) (a' := ?_) #[true, true, true, true, false, false, false, false, false, false, false, false, false, false, false, false, false, false, false, false] rfl rfl (any_of HT_.out (by kernel_rfl)) (fun _ _ _ h => h) (Or.inl ⟨by rfl, ?_⟩) ?_ ?_
                  rotate_left
                  ·intro w'
                   go_simp
                   with_reducible rfl
                  rotate_left
                  ·simp only [Act.put, List.setIfInBounds_toArray, List.set_cons_zero, List.set_cons_succ, i64_w, i32_w]
                   rfl
                  refine pure_ (i := 7) (N := some 84) (v := ?_) (a' := ?_) #[true, true, true, true, false, false, false, true, false, false, false, false, false, false, false, false, false, false, false, false] rfl rfl (any_of HT_.out (by kernel_rfl)) (fun _ _ _ h => h) (Or.inl ⟨by rfl, ?_⟩) ?_ ?_
                  rotate_left
                  ·intro w'
                   go_simp
                   with_reducible rfl
                  rotate_left
                  ·simp only [Act.put, List.setIfInBounds_toArray, List.set_cons_zero, List.set_cons_succ, i64_w, i32_w]
                   rfl
                  refine pure_ (i := 12) (N := some 89) (v := ?_) (a' := ?_) #[true, true, true, true, false, false, false, true, false, false, false, false, true, false, false, false, false, false, false, false] rfl rfl (any_of HT_.out (by kernel_rfl)) (fun _ _ _ h => h) (Or.inl ⟨by rfl, ?_⟩) ?_ ?_
                  rotate_left
                  ·intro w'
                   go_simp
                   with_reducible rfl
                  rotate_left
                  ·simp only [Act.put, List.setIfInBounds_toArray, List.set_cons_zero, List.set_cons_succ, i64_w, i32_w]
                   rfl
                  refine pure_ (i := 16) (N := some 93) (v := ?_) (a' := ?_) #[true, true, true, true, false, false, false, true, false, false, false, false, true, false, false, false, true, false, false, false] rfl rfl (any_of HT_.out (by kernel_rfl)) (fun _ _ _ h => h) (Or.inl ⟨by rfl, ?_⟩) ?_ ?_
                  rotate_left
                  ·intro w'
                   go_simp
                   with_reducible rfl
                  rotate_left
                  ·simp only [Act.put, List.setIfInBounds_toArray, List.set_cons_zero, List.set_cons_succ, i64_w, i32_w]
                   rfl
                  refine take_ (i := 4) (N := some 81) (v := ?_) (a' := ?_) #[true, true, true, true, true, false, false, true, false, false, false, false, true, false, false, false, true, false, false, false] rfl rfl (take_ofW HT_.out HW_.out (by kernel_rfl)) (fun _ _ _ h => h) (Or.inl ⟨by rfl, ?_⟩) hHeld ?_ ?_
                  rotate_left
                  ·rintro w' ⟨s0, s1, s2, s3, s4, s5, s6⟩
                   go_simp
                   with_reducible rfl
                  rotate_left
                  ·simp only [Act.put, List.setIfInBounds_toArray, List.set_cons_zero, List.set_cons_succ, i64_w, i32_w]
                   rfl
                  refine pure_ (i := 5) (N := some 82) (v := ?_) (a' := ?_) #[true, true, true, true, true, true, false, true, false, false, false, false, true, false, false, false, true, false, false, false] rfl rfl (any_of HT_.out (by kernel_rfl)) (fun _ _ _ h => h) (Or.inl ⟨by rfl, ?_⟩) ?_ ?_
                  rotate_left
                  ·intro w'
                   go_simp
                   with_reducible rfl
                  rotate_left
                  ·simp only [Act.put, List.setIfInBounds_toArray, List.set_cons_zero, List.set_cons_succ, i64_w, i32_w]
                   rfl
                  refine pure_ (i := 6) (N := some 83) (v := ?_) (a' := ?_) #[true, true, true, true, true, true, true, true, false, false, false, false, true, false, false, false, true, false, false, false] rfl rfl (any_of HT_.out (by kernel_rfl)) (fun _ _ _ h => h) (Or.inl ⟨by rfl, ?_⟩) ?_ ?_
                  rotate_left
                  ·intro w'
                   go_simp
                   with_reducible rfl
                  rotate_left
                  ·simp only [Act.put, List.setIfInBounds_toArray, List.set_cons_zero, List.set_cons_succ, i64_w, i32_w]
                   rfl
                  refine take_ (i := 8) (N := some 85) (v := ?_) (a' := ?_) #[true, true, true, true, true, true, true, true, true, false, false, false, true, false, false, false, true, false, false, false] rfl rfl (take_ofW HT_.out HW_.out (by kernel_rfl)) (fun _ _ _ h => h) (Or.inl ⟨by rfl, ?_⟩) hHeld ?_ ?_
                  rotate_left
                  ·rintro w' ⟨s0, s1, s2, s3, s4, s5, s6⟩
                   go_simp
                   with_reducible rfl
                  rotate_left
                  ·simp only [Act.put, List.setIfInBounds_toArray, List.set_cons_zero, List.set_cons_succ, i64_w, i32_w]
                   rfl
                  refine take_ (i := 13) (N := some 90) (v := ?_) (a' := ?_) #[true, true, true, true, true, true, true, true, true, false, false, false, true, true, false, false, true, false, false, false] rfl rfl (take_ofW HT_.out HW_.out (by kernel_rfl)) (fun _ _ _ h => h) (Or.inl ⟨by rfl, ?_⟩) hHeld ?_ ?_
                  rotate_left
                  ·rintro w' ⟨s0, s1, s2, s3, s4, s5, s6⟩
                   go_simp
                   with_reducible rfl
                  rotate_left
                  ·simp only [Act.put, List.setIfInBounds_toArray, List.set_cons_zero, List.set_cons_succ, i64_w, i32_w]
                   rfl
                  refine one_ (i := 9) (N := some 86) #[true, true, true, true, true, true, true, true, true, true, false, false, true, true, false, false, true, false, false, false] rfl rfl (one_of HT_.out (by kernel_rfl)) (by decide) (fun K hK => ?_)
                  refine goes_ Tryd.func15 (by kernel_rfl) rfl #[.int .i64 ((rd_T45 l0 x6_1).f1)] (by rfl) rfl rfl (by (try simp only [List.map_toArray, List.map_cons, List.map_nil]); first | done | rfl | (simp only [List.length_drop, List.length_take]; rfl)) ?_
                  with_reducible refine (witheref6_Mode.calls ((rd_T45 l0 x6_1).f1) t214 _ A50.out).mono ?_
                  rintro e w' ⟨rfl, ⟨nd, rfl⟩⟩
                  refine ⟨_, rfl, ?_⟩
                  refine hK.out _ _ ⟨(blk_cell BK209.out 0).trans rfl, (blk_cell BK209.out 1).trans rfl, (blk_cell BK209.out 2).trans rfl, (blk_cell BK209.out 3).trans rfl, (blk_cell BK209.out 4).trans rfl, (blk_cell BK209.out 5).trans rfl, (blk_cell BK209.out 6).trans rfl⟩ (fun hHeld => ?_)
                  clear hK K
                  refine norm_ (a' := ?_) ?_ ?_
                  rotate_left
                  ·show Act.put _ (some 86) _ = _
                   simp only [Act.put, List.setIfInBounds_toArray, List.set_cons_zero, List.set_cons_succ, i64_w, i32_w]
                   rfl
                  refine pure_ (i := 10) (N := some 87) (v := ?_) (a' := ?_) #[true, true, true, true, true, true, true, true, true, true, true, false, true, true, false, false, true, false, false, false] rfl rfl (any_of HT_.out (by kernel_rfl)) (fun _ _ _ h => h) (Or.inl ⟨by rfl, ?_⟩) ?_ ?_
                  rotate_left
                  ·intro w'
                   go_simp
                   with_reducible rfl
                  rotate_left
                  ·simp only [Act.put, List.setIfInBounds_toArray, List.set_cons_zero, List.set_cons_succ, i64_w, i32_w]
                   rfl
                  refine pure_ (i := 11) (N := some 88) (v := ?_) (a' := ?_) #[true, true, true, true, true, true, true, true, true, true, true, true, true, true, false, false, true, false, false, false] rfl rfl (any_of HT_.out (by kernel_rfl)) (fun _ _ _ h => h) (Or.inl ⟨by rfl, ?_⟩) ?_ ?_
                  rotate_left
                  ·intro w'
                   go_simp
                   with_reducible rfl
                  rotate_left
                  ·simp only [Act.put, List.setIfInBounds_toArray, List.set_cons_zero, List.set_cons_succ, i64_w, i32_w]
                   rfl
                  refine pure_ (i := 14) (N := some 91) (v := ?_) (a' := ?_) #[true, true, true, true, true, true, true, true, true, true, true, true, true, true, true, false, true, false, false, false] rfl rfl (any_of HT_.out (by kernel_rfl)) (fun _ _ _ h => h) (Or.inl ⟨by rfl, ?_⟩) ?_ ?_
                  rotate_left
                  ·intro w'
                   go_simp
                   with_reducible rfl
                  rotate_left
                  ·simp only [Act.put, List.setIfInBounds_toArray, List.set_cons_zero, List.set_cons_succ, i64_w, i32_w]
                   rfl
                  refine pure_ (i := 15) (N := some 92) (v := ?_) (a' := ?_) #[true, true, true, true, true, true, true, true, true, true, true, true, true, true, true, true, true, false, false, false] rfl rfl (any_of HT_.out (by kernel_rfl)) (fun _ _ _ h => h) (Or.inl ⟨by rfl, ?_⟩) ?_ ?_
                  rotate_left
                  ·intro w'
                   go_simp
                   with_reducible rfl
                  rotate_left
                  ·simp only [Act.put, List.setIfInBounds_toArray, List.set_cons_zero, List.set_cons_succ, i64_w, i32_w]
                   rfl
                  refine pure_ (i := 17) (N := some 94) (v := ?_) (a' := ?_) #[true, true, true, true, true, true, true, true, true, true, true, true, true, true, true, true, true, true, false, false] rfl rfl (any_of HT_.out (by kernel_rfl)) (fun _ _ _ h => h) (Or.inl ⟨by rfl, ?_⟩) ?_ ?_
                  rotate_left
                  ·intro w'
                   go_simp
                   with_reducible rfl
                  rotate_left
                  ·simp only [Act.put, List.setIfInBounds_toArray, List.set_cons_zero, List.set_cons_succ, i64_w, i32_w]
                   rfl
                  refine pure_ (i := 18) (N := some 95) (v := ?_) (a' := ?_) #[true, true, true, true, true, true, true, true, true, true, true, true, true, true, true, true, true, true, true, false] rfl rfl (any_of HT_.out (by kernel_rfl)) (fun _ _ _ h => h) (Or.inl ⟨by rfl, ?_⟩) ?_ ?_
                  rotate_left
                  ·intro w'
                   go_simp
                   with_reducible rfl
                  rotate_left
                  ·simp only [Act.put, List.setIfInBounds_toArray, List.set_cons_zero, List.set_cons_succ, i64_w, i32_w]
                   rfl
                  refine pure_ (i := 19) (N := some 5) (v := ?_) (a' := ?_) #[true, true, true, true, true, true, true, true, true, true, true, true, true, true, true, true, true, true, true, true] rfl rfl (any_of HT_.out (by kernel_rfl)) (fun _ _ _ h => h) (Or.inl ⟨by rfl, ?_⟩) ?_ ?_
                  rotate_left
                  ·intro w'
                   go_simp
                   with_reducible rfl
                  rotate_left
                  ·simp only [Act.put, List.setIfInBounds_toArray, List.set_cons_zero, List.set_cons_succ, i64_w, i32_w]
                   rfl
                  refine done_ (done_of HT_.out (by kernel_rfl)) ?_
                  try go_wp2
                  go_roundg k1
                  case measure => have := HK1.out; omega
                  case rel => exact ⟨(((((((((x5_1 ++ t211) ++ ((rd_T45 l0 x6_1).f2)) ++ (⟨#[32, 61, 32, 97, 100, 100, 32]⟩ : ByteArray)) ++ t214) ++ (⟨#[32]⟩ : ByteArray)) ++ ((rd_T45 l0 x6_1).f3)) ++ (⟨#[32]⟩ : ByteArray)) ++ t210) ++ (⟨#[59, 10]⟩ : ByteArray)), (wrap64 (x6_1 + 1)), (by first | rfl | (simp; done) | (simp [*]; done)), (by first | rfl | (simp; done) | (simp [*]; done)), H', ⟨by have := HK1.out; omega⟩, ⟨by repeat (first | (with_reducible first | exact HB.out | apply below_alloc | apply pw_below_drewN | apply below_drew1 | refine below_set ?_ GE209.out) | exact HB.out)⟩⟩
                 ·rw [if_neg c56] at H
                  exact absurd H (by simp)
                ·rw [if_neg c55] at H
                 exact absurd H (by simp)
               ·rw [if_neg c54] at H
                exact absurd H (by simp)
              ·rw [if_neg c53] at H
               exact absurd H (by simp)
             ·rw [if_neg c52] at H
              exact absurd H (by simp)
            ·rw [if_neg c51] at H
             exact absurd H (by simp)
           ·rw [if_neg c49] at H
            exact absurd H (by simp)
          ·rw [if_neg c48] at H
           exact absurd H (by simp)
         ·rw [if_neg c47] at H
          exact absurd H (by simp)
        ·rw [if_neg c46] at H
         have c46b0 : (((rd_T45 l0 x6_1).f0) == 4) = false := beq_eq_false_iff_ne.mpr c46
         have c46b1 : (((rd_T45 l0 x6_1).f0) != 4) = true := bne_iff_ne.mpr c46
         by_cases c62 : ((rd_T45 l0 x6_1).f0) = 5
         ·rw [if_pos c62] at H
          have c62b0 : (((rd_T45 l0 x6_1).f0) == 5) = true := beq_iff_eq.mpr c62
          have c62b1 : (((rd_T45 l0 x6_1).f0) != 5) = false := bne_eq_false_iff_eq.mpr c62
          clear c62
          by_cases c63 : x5_1.size + t211.size ≤ 9223372036854775807
          ·rw [if_pos c63] at H
           have c63b0 := eq_true c63
           have c63b1 : decide (x5_1.size + t211.size ≤ 9223372036854775807) = true := decide_eq_true c63
           try have c63b2 : (9223372036854775807 < x5_1.size + t211.size) = False := eq_false (Nat.not_lt.2 c63)
           by_cases c64 : (x5_1 ++ t211).size + ((rd_T45 l0 x6_1).f2).size ≤ 9223372036854775807
           ·rw [if_pos c64] at H
            have c64b0 := eq_true c64
            have c64b1 : decide ((x5_1 ++ t211).size + ((rd_T45 l0 x6_1).f2).size ≤ 9223372036854775807) = true := decide_eq_true c64
            try (have c64b1s := c64b1; simp only [ByteArray.size_append] at c64b1s)
            try have c64b2 : (9223372036854775807 < (x5_1 ++ t211).size + ((rd_T45 l0 x6_1).f2).size) = False := eq_false (Nat.not_lt.2 c64)
            try (have c64b2s := c64b2; simp only [ByteArray.size_append] at c64b2s)
            by_cases c65 : ((x5_1 ++ t211) ++ ((rd_T45 l0 x6_1).f2)).size + 7 ≤ 9223372036854775807
            ·rw [if_pos c65] at H
             have c65b0 := eq_true c65
             have c65b1 : decide (((x5_1 ++ t211) ++ ((rd_T45 l0 x6_1).f2)).size + 7 ≤ 9223372036854775807) = true := decide_eq_true c65
             try (have c65b1s := c65b1; simp only [ByteArray.size_append] at c65b1s)
             try have c65b2 : (9223372036854775807 < ((x5_1 ++ t211) ++ ((rd_T45 l0 x6_1).f2)).size + 7) = False := eq_false (Nat.not_lt.2 c65)
             try (have c65b2s := c65b2; simp only [ByteArray.size_append] at c65b2s)
             replace H := Option.bind_eq_some_iff.mp H
             obtain ⟨t215, A660, H⟩ := H
             replace H : (if (((x5_1 ++ t211) ++ ((rd_T45 l0 x6_1).f2)) ++ (⟨#[32, 61, 32, 99, 97, 115, 32]⟩ : ByteArray)).size + t215.size ≤ 9223372036854775807 then (if ((((x5_1 ++ t211) ++ ((rd_T45 l0 x6_1).f2)) ++ (⟨#[32, 61, 32, 99, 97, 115, 32]⟩ : ByteArray)) ++ t215).size + 1 ≤ 9223372036854775807 then (if (((((x5_1 ++ t211) ++ ((rd_T45 l0 x6_1).f2)) ++ (⟨#[32, 61, 32, 99, 97, 115, 32]⟩ : ByteArray)) ++ t215) ++ (⟨#[32]⟩ : ByteArray)).size + ((rd_T45 l0 x6_1).f3).size ≤ 9223372036854775807 then (if ((((((x5_1 ++ t211) ++ ((rd_T45 l0 x6_1).f2)) ++ (⟨#[32, 61, 32, 99, 97, 115, 32]⟩ : ByteArray)) ++ t215) ++ (⟨#[32]⟩ : ByteArray)) ++ ((rd_T45 l0 x6_1).f3)).size + 1 ≤ 9223372036854775807 then (if (((((((x5_1 ++ t211) ++ ((rd_T45 l0 x6_1).f2)) ++ (⟨#[32, 61, 32, 99, 97, 115, 32]⟩ : ByteArray)) ++ t215) ++ (⟨#[32]⟩ : ByteArray)) ++ ((rd_T45 l0 x6_1).f3)) ++ (⟨#[32]⟩ : ByteArray)).size + t210.size ≤ 9223372036854775807 then (if ((((((((x5_1 ++ t211) ++ ((rd_T45 l0 x6_1).f2)) ++ (⟨#[32, 61, 32, 99, 97, 115, 32]⟩ : ByteArray)) ++ t215) ++ (⟨#[32]⟩ : ByteArray)) ++ ((rd_T45 l0 x6_1).f3)) ++ (⟨#[32]⟩ : ByteArray)) ++ t210).size + 2 ≤ 9223372036854775807 then ((witheref6_kid.f k1 ((rd_T45 l0 x6_1).f4) 1).bind fun t216 => (if (((((((((x5_1 ++ t211) ++ ((rd_T45 l0 x6_1).f2)) ++ (⟨#[32, 61, 32, 99, 97, 115, 32]⟩ : ByteArray)) ++ t215) ++ (⟨#[32]⟩ : ByteArray)) ++ ((rd_T45 l0 x6_1).f3)) ++ (⟨#[32]⟩ : ByteArray)) ++ t210) ++ (⟨#[44, 32]⟩ : ByteArray)).size + t216.size ≤ 9223372036854775807 then (if ((((((((((x5_1 ++ t211) ++ ((rd_T45 l0 x6_1).f2)) ++ (⟨#[32, 61, 32, 99, 97, 115, 32]⟩ : ByteArray)) ++ t215) ++ (⟨#[32]⟩ : ByteArray)) ++ ((rd_T45 l0 x6_1).f3)) ++ (⟨#[32]⟩ : ByteArray)) ++ t210) ++ (⟨#[44, 32]⟩ : ByteArray)) ++ t216).size + 2 ≤ 9223372036854775807 then (witheref6_lines.l0 k1 l0 a1 (((((((((((x5_1 ++ t211) ++ ((rd_T45 l0 x6_1).f2)) ++ (⟨#[32, 61, 32, 99, 97, 115, 32]⟩ : ByteArray)) ++ t215) ++ (⟨#[32]⟩ : ByteArray)) ++ ((rd_T45 l0 x6_1).f3)) ++ (⟨#[32]⟩ : ByteArray)) ++ t210) ++ (⟨#[44, 32]⟩ : ByteArray)) ++ t216) ++ (⟨#[59, 10]⟩ : ByteArray)) (wrap64 (x6_1 + 1))) else (none)) else (none))) else (none)) else (none)) else (none)) else (none)) else (none)) else (none)) = some r := H
             have A66 := Aside0.mk A660
             clear A660
             by_cases c67 : (((x5_1 ++ t211) ++ ((rd_T45 l0 x6_1).f2)) ++ (⟨#[32, 61, 32, 99, 97, 115, 32]⟩ : ByteArray)).size + t215.size ≤ 9223372036854775807
             ·rw [if_pos c67] at H
              have c67b0 := eq_true c67
              have c67b1 : decide ((((x5_1 ++ t211) ++ ((rd_T45 l0 x6_1).f2)) ++ (⟨#[32, 61, 32, 99, 97, 115, 32]⟩ : ByteArray)).size + t215.size ≤ 9223372036854775807) = true := decide_eq_true c67
              try (have c67b1s := c67b1; simp only [ByteArray.size_append, show (⟨#[32, 61, 32, 99, 97, 115, 32]⟩ : ByteArray).size = 7 from rfl] at c67b1s)
              try have c67b2 : (9223372036854775807 < (((x5_1 ++ t211) ++ ((rd_T45 l0 x6_1).f2)) ++ (⟨#[32, 61, 32, 99, 97, 115, 32]⟩ : ByteArray)).size + t215.size) = False := eq_false (Nat.not_lt.2 c67)
              try (have c67b2s := c67b2; simp only [ByteArray.size_append, show (⟨#[32, 61, 32, 99, 97, 115, 32]⟩ : ByteArray).size = 7 from rfl] at c67b2s)
              by_cases c68 : ((((x5_1 ++ t211) ++ ((rd_T45 l0 x6_1).f2)) ++ (⟨#[32, 61, 32, 99, 97, 115, 32]⟩ : ByteArray)) ++ t215).size + 1 ≤ 9223372036854775807
              ·rw [if_pos c68] at H
               have c68b0 := eq_true c68
               have c68b1 : decide (((((x5_1 ++ t211) ++ ((rd_T45 l0 x6_1).f2)) ++ (⟨#[32, 61, 32, 99, 97, 115, 32]⟩ : ByteArray)) ++ t215).size + 1 ≤ 9223372036854775807) = true := decide_eq_true c68
               try (have c68b1s := c68b1; simp only [ByteArray.size_append, show (⟨#[32, 61, 32, 99, 97, 115, 32]⟩ : ByteArray).size = 7 from rfl] at c68b1s)
               try have c68b2 : (9223372036854775807 < ((((x5_1 ++ t211) ++ ((rd_T45 l0 x6_1).f2)) ++ (⟨#[32, 61, 32, 99, 97, 115, 32]⟩ : ByteArray)) ++ t215).size + 1) = False := eq_false (Nat.not_lt.2 c68)
               try (have c68b2s := c68b2; simp only [ByteArray.size_append, show (⟨#[32, 61, 32, 99, 97, 115, 32]⟩ : ByteArray).size = 7 from rfl] at c68b2s)
               by_cases c69 : (((((x5_1 ++ t211) ++ ((rd_T45 l0 x6_1).f2)) ++ (⟨#[32, 61, 32, 99, 97, 115, 32]⟩ : ByteArray)) ++ t215) ++ (⟨#[32]⟩ : ByteArray)).size + ((rd_T45 l0 x6_1).f3).size ≤ 9223372036854775807
               ·rw [if_pos c69] at H
                have c69b0 := eq_true c69
                have c69b1 : decide ((((((x5_1 ++ t211) ++ ((rd_T45 l0 x6_1).f2)) ++ (⟨#[32, 61, 32, 99, 97, 115, 32]⟩ : ByteArray)) ++ t215) ++ (⟨#[32]⟩ : ByteArray)).size + ((rd_T45 l0 x6_1).f3).size ≤ 9223372036854775807) = true := decide_eq_true c69
                try (have c69b1s := c69b1; simp only [ByteArray.size_append, show (⟨#[32, 61, 32, 99, 97, 115, 32]⟩ : ByteArray).size = 7 from rfl, show (⟨#[32]⟩ : ByteArray).size = 1 from rfl] at c69b1s)
                try have c69b2 : (9223372036854775807 < (((((x5_1 ++ t211) ++ ((rd_T45 l0 x6_1).f2)) ++ (⟨#[32, 61, 32, 99, 97, 115, 32]⟩ : ByteArray)) ++ t215) ++ (⟨#[32]⟩ : ByteArray)).size + ((rd_T45 l0 x6_1).f3).size) = False := eq_false (Nat.not_lt.2 c69)
                try (have c69b2s := c69b2; simp only [ByteArray.size_append, show (⟨#[32, 61, 32, 99, 97, 115, 32]⟩ : ByteArray).size = 7 from rfl, show (⟨#[32]⟩ : ByteArray).size = 1 from rfl] at c69b2s)
                by_cases c70 : ((((((x5_1 ++ t211) ++ ((rd_T45 l0 x6_1).f2)) ++ (⟨#[32, 61, 32, 99, 97, 115, 32]⟩ : ByteArray)) ++ t215) ++ (⟨#[32]⟩ : ByteArray)) ++ ((rd_T45 l0 x6_1).f3)).size + 1 ≤ 9223372036854775807
                ·rw [if_pos c70] at H
                 have c70b0 := eq_true c70
                 have c70b1 : decide (((((((x5_1 ++ t211) ++ ((rd_T45 l0 x6_1).f2)) ++ (⟨#[32, 61, 32, 99, 97, 115, 32]⟩ : ByteArray)) ++ t215) ++ (⟨#[32]⟩ : ByteArray)) ++ ((rd_T45 l0 x6_1).f3)).size + 1 ≤ 9223372036854775807) = true := decide_eq_true c70
                 try (have c70b1s := c70b1; simp only [ByteArray.size_append, show (⟨#[32, 61, 32, 99, 97, 115, 32]⟩ : ByteArray).size = 7 from rfl, show (⟨#[32]⟩ : ByteArray).size = 1 from rfl] at c70b1s)
                 try have c70b2 : (9223372036854775807 < ((((((x5_1 ++ t211) ++ ((rd_T45 l0 x6_1).f2)) ++ (⟨#[32, 61, 32, 99, 97, 115, 32]⟩ : ByteArray)) ++ t215) ++ (⟨#[32]⟩ : ByteArray)) ++ ((rd_T45 l0 x6_1).f3)).size + 1) = False := eq_false (Nat.not_lt.2 c70)
                 try (have c70b2s := c70b2; simp only [ByteArray.size_append, show (⟨#[32, 61, 32, 99, 97, 115, 32]⟩ : ByteArray).size = 7 from rfl, show (⟨#[32]⟩ : ByteArray).size = 1 from rfl] at c70b2s)
                 by_cases c71 : (((((((x5_1 ++ t211) ++ ((rd_T45 l0 x6_1).f2)) ++ (⟨#[32, 61, 32, 99, 97, 115, 32]⟩ : ByteArray)) ++ t215) ++ (⟨#[32]⟩ : ByteArray)) ++ ((rd_T45 l0 x6_1).f3)) ++ (⟨#[32]⟩ : ByteArray)).size + t210.size ≤ 9223372036854775807
                 ·rw [if_pos c71] at H
                  have c71b0 := eq_true c71
                  have c71b1 : decide ((((((((x5_1 ++ t211) ++ ((rd_T45 l0 x6_1).f2)) ++ (⟨#[32, 61, 32, 99, 97, 115, 32]⟩ : ByteArray)) ++ t215) ++ (⟨#[32]⟩ : ByteArray)) ++ ((rd_T45 l0 x6_1).f3)) ++ (⟨#[32]⟩ : ByteArray)).size + t210.size ≤ 9223372036854775807) = true := decide_eq_true c71
                  try (have c71b1s := c71b1; simp only [ByteArray.size_append, show (⟨#[32, 61, 32, 99, 97, 115, 32]⟩ : ByteArray).size = 7 from rfl, show (⟨#[32]⟩ : ByteArray).size = 1 from rfl] at c71b1s)
                  try have c71b2 : (9223372036854775807 < (((((((x5_1 ++ t211) ++ ((rd_T45 l0 x6_1).f2)) ++ (⟨#[32, 61, 32, 99, 97, 115, 32]⟩ : ByteArray)) ++ t215) ++ (⟨#[32]⟩ : ByteArray)) ++ ((rd_T45 l0 x6_1).f3)) ++ (⟨#[32]⟩ : ByteArray)).size + t210.size) = False := eq_false (Nat.not_lt.2 c71)
                  try (have c71b2s := c71b2; simp only [ByteArray.size_append, show (⟨#[32, 61, 32, 99, 97, 115, 32]⟩ : ByteArray).size = 7 from rfl, show (⟨#[32]⟩ : ByteArray).size = 1 from rfl] at c71b2s)
                  by_cases c72 : ((((((((x5_1 ++ t211) ++ ((rd_T45 l0 x6_1).f2)) ++ (⟨#[32, 61, 32, 99, 97, 115, 32]⟩ : ByteArray)) ++ t215) ++ (⟨#[32]⟩ : ByteArray)) ++ ((rd_T45 l0 x6_1).f3)) ++ (⟨#[32]⟩ : ByteArray)) ++ t210).size + 2 ≤ 9223372036854775807
                  ·rw [if_pos c72] at H
                   have c72b0 := eq_true c72
                   have c72b1 : decide (((((((((x5_1 ++ t211) ++ ((rd_T45 l0 x6_1).f2)) ++ (⟨#[32, 61, 32, 99, 97, 115, 32]⟩ : ByteArray)) ++ t215) ++ (⟨#[32]⟩ : ByteArray)) ++ ((rd_T45 l0 x6_1).f3)) ++ (⟨#[32]⟩ : ByteArray)) ++ t210).size + 2 ≤ 9223372036854775807) = true := decide_eq_true c72
                   try (have c72b1s := c72b1; simp only [ByteArray.size_append, show (⟨#[32, 61, 32, 99, 97, 115, 32]⟩ : ByteArray).size = 7 from rfl, show (⟨#[32]⟩ : ByteArray).size = 1 from rfl] at c72b1s)
                   try have c72b2 : (9223372036854775807 < ((((((((x5_1 ++ t211) ++ ((rd_T45 l0 x6_1).f2)) ++ (⟨#[32, 61, 32, 99, 97, 115, 32]⟩ : ByteArray)) ++ t215) ++ (⟨#[32]⟩ : ByteArray)) ++ ((rd_T45 l0 x6_1).f3)) ++ (⟨#[32]⟩ : ByteArray)) ++ t210).size + 2) = False := eq_false (Nat.not_lt.2 c72)
                   try (have c72b2s := c72b2; simp only [ByteArray.size_append, show (⟨#[32, 61, 32, 99, 97, 115, 32]⟩ : ByteArray).size = 7 from rfl, show (⟨#[32]⟩ : ByteArray).size = 1 from rfl] at c72b2s)
                   replace H := Option.bind_eq_some_iff.mp H
                   obtain ⟨t216, A730, H⟩ := H
                   replace H : (if (((((((((x5_1 ++ t211) ++ ((rd_T45 l0 x6_1).f2)) ++ (⟨#[32, 61, 32, 99, 97, 115, 32]⟩ : ByteArray)) ++ t215) ++ (⟨#[32]⟩ : ByteArray)) ++ ((rd_T45 l0 x6_1).f3)) ++ (⟨#[32]⟩ : ByteArray)) ++ t210) ++ (⟨#[44, 32]⟩ : ByteArray)).size + t216.size ≤ 9223372036854775807 then (if ((((((((((x5_1 ++ t211) ++ ((rd_T45 l0 x6_1).f2)) ++ (⟨#[32, 61, 32, 99, 97, 115, 32]⟩ : ByteArray)) ++ t215) ++ (⟨#[32]⟩ : ByteArray)) ++ ((rd_T45 l0 x6_1).f3)) ++ (⟨#[32]⟩ : ByteArray)) ++ t210) ++ (⟨#[44, 32]⟩ : ByteArray)) ++ t216).size + 2 ≤ 9223372036854775807 then (witheref6_lines.l0 k1 l0 a1 (((((((((((x5_1 ++ t211) ++ ((rd_T45 l0 x6_1).f2)) ++ (⟨#[32, 61, 32, 99, 97, 115, 32]⟩ : ByteArray)) ++ t215) ++ (⟨#[32]⟩ : ByteArray)) ++ ((rd_T45 l0 x6_1).f3)) ++ (⟨#[32]⟩ : ByteArray)) ++ t210) ++ (⟨#[44, 32]⟩ : ByteArray)) ++ t216) ++ (⟨#[59, 10]⟩ : ByteArray)) (wrap64 (x6_1 + 1))) else (none)) else (none)) = some r := H
                   have A73 := Aside0.mk A730
                   clear A730
                   by_cases c74 : (((((((((x5_1 ++ t211) ++ ((rd_T45 l0 x6_1).f2)) ++ (⟨#[32, 61, 32, 99, 97, 115, 32]⟩ : ByteArray)) ++ t215) ++ (⟨#[32]⟩ : ByteArray)) ++ ((rd_T45 l0 x6_1).f3)) ++ (⟨#[32]⟩ : ByteArray)) ++ t210) ++ (⟨#[44, 32]⟩ : ByteArray)).size + t216.size ≤ 9223372036854775807
                   ·rw [if_pos c74] at H
                    have c74b0 := eq_true c74
                    have c74b1 : decide ((((((((((x5_1 ++ t211) ++ ((rd_T45 l0 x6_1).f2)) ++ (⟨#[32, 61, 32, 99, 97, 115, 32]⟩ : ByteArray)) ++ t215) ++ (⟨#[32]⟩ : ByteArray)) ++ ((rd_T45 l0 x6_1).f3)) ++ (⟨#[32]⟩ : ByteArray)) ++ t210) ++ (⟨#[44, 32]⟩ : ByteArray)).size + t216.size ≤ 9223372036854775807) = true := decide_eq_true c74
                    try (have c74b1s := c74b1; simp only [ByteArray.size_append, show (⟨#[32, 61, 32, 99, 97, 115, 32]⟩ : ByteArray).size = 7 from rfl, show (⟨#[32]⟩ : ByteArray).size = 1 from rfl, show (⟨#[44, 32]⟩ : ByteArray).size = 2 from rfl] at c74b1s)
                    try have c74b2 : (9223372036854775807 < (((((((((x5_1 ++ t211) ++ ((rd_T45 l0 x6_1).f2)) ++ (⟨#[32, 61, 32, 99, 97, 115, 32]⟩ : ByteArray)) ++ t215) ++ (⟨#[32]⟩ : ByteArray)) ++ ((rd_T45 l0 x6_1).f3)) ++ (⟨#[32]⟩ : ByteArray)) ++ t210) ++ (⟨#[44, 32]⟩ : ByteArray)).size + t216.size) = False := eq_false (Nat.not_lt.2 c74)
                    try (have c74b2s := c74b2; simp only [ByteArray.size_append, show (⟨#[32, 61, 32, 99, 97, 115, 32]⟩ : ByteArray).size = 7 from rfl, show (⟨#[32]⟩ : ByteArray).size = 1 from rfl, show (⟨#[44, 32]⟩ : ByteArray).size = 2 from rfl] at c74b2s)
                    by_cases c75 : ((((((((((x5_1 ++ t211) ++ ((rd_T45 l0 x6_1).f2)) ++ (⟨#[32, 61, 32, 99, 97, 115, 32]⟩ : ByteArray)) ++ t215) ++ (⟨#[32]⟩ : ByteArray)) ++ ((rd_T45 l0 x6_1).f3)) ++ (⟨#[32]⟩ : ByteArray)) ++ t210) ++ (⟨#[44, 32]⟩ : ByteArray)) ++ t216).size + 2 ≤ 9223372036854775807
                    ·rw [if_pos c75] at H
                     have c75b0 := eq_true c75
                     have c75b1 : decide (((((((((((x5_1 ++ t211) ++ ((rd_T45 l0 x6_1).f2)) ++ (⟨#[32, 61, 32, 99, 97, 115, 32]⟩ : ByteArray)) ++ t215) ++ (⟨#[32]⟩ : ByteArray)) ++ ((rd_T45 l0 x6_1).f3)) ++ (⟨#[32]⟩ : ByteArray)) ++ t210) ++ (⟨#[44, 32]⟩ : ByteArray)) ++ t216).size + 2 ≤ 9223372036854775807) = true := decide_eq_true c75
                     try (have c75b1s := c75b1; simp only [ByteArray.size_append, show (⟨#[32, 61, 32, 99, 97, 115, 32]⟩ : ByteArray).size = 7 from rfl, show (⟨#[32]⟩ : ByteArray).size = 1 from rfl, show (⟨#[44, 32]⟩ : ByteArray).size = 2 from rfl] at c75b1s)
                     try have c75b2 : (9223372036854775807 < ((((((((((x5_1 ++ t211) ++ ((rd_T45 l0 x6_1).f2)) ++ (⟨#[32, 61, 32, 99, 97, 115, 32]⟩ : ByteArray)) ++ t215) ++ (⟨#[32]⟩ : ByteArray)) ++ ((rd_T45 l0 x6_1).f3)) ++ (⟨#[32]⟩ : ByteArray)) ++ t210) ++ (⟨#[44, 32]⟩ : ByteArray)) ++ t216).size + 2) = False := eq_false (Nat.not_lt.2 c75)
                     try (have c75b2s := c75b2; simp only [ByteArray.size_append, show (⟨#[32, 61, 32, 99, 97, 115, 32]⟩ : ByteArray).size = 7 from rfl, show (⟨#[32]⟩ : ByteArray).size = 1 from rfl, show (⟨#[44, 32]⟩ : ByteArray).size = 2 from rfl] at c75b2s)
                     have H' := Aside0.mk H
                     clear H
                     have p208 : 0 ≤ (x6_1 : Int) := of_decide_eq_true (by first | (with_reducible assumption) | assumption)
                     have q208 : x6_1 < (l0.length : Int) := of_decide_eq_true (by first | (with_reducible assumption) | assumption)
                     obtain ⟨ad208, A208_4, c208_4, A208_5, c208_5, A208_6, c208_6, e208, hx208_0, hx208_1, hx208_2, hx208_3, hx208_4, hx208_5, hx208_6, hl208_4, hi208_4, hl208_5, hi208_5, hl208_6, hi208_6⟩ := at_T45 HR0.out x6_1 p208 q208
                     cases e208
                     replace hx208_0 := (HB.out.cell (World.block_lt_of_cell? w _ hx208_0)).trans hx208_0
                     replace hx208_1 := (HB.out.cell (World.block_lt_of_cell? w _ hx208_1)).trans hx208_1
                     replace hx208_2 := (HB.out.cell (World.block_lt_of_cell? w _ hx208_2)).trans hx208_2
                     replace hx208_3 := (HB.out.cell (World.block_lt_of_cell? w _ hx208_3)).trans hx208_3
                     replace hx208_4 := (HB.out.cell (World.block_lt_of_cell? w _ hx208_4)).trans hx208_4
                     replace hx208_5 := (HB.out.cell (World.block_lt_of_cell? w _ hx208_5)).trans hx208_5
                     replace hx208_6 := (HB.out.cell (World.block_lt_of_cell? w _ hx208_6)).trans hx208_6
                     have HR208_4 := Aside0.mk hi208_4
                     have HC208_4 := Aside0.mk hl208_4
                     clear hi208_4 hl208_4
                     have HR208_5 := Aside0.mk hi208_5
                     have HC208_5 := Aside0.mk hl208_5
                     clear hi208_5 hl208_5
                     have HR208_6 := Aside0.mk hi208_6
                     have HC208_6 := Aside0.mk hl208_6
                     clear hi208_6 hl208_6
                     replace p208 := eq_true p208
                     replace q208 := eq_true q208
                     try go_wp2_with (first | ((with_reducible refine gate_dst (N := 7) rfl ?_); refine box_event ?hg (N := 7) ?hd (cs := #[.int .i64 0, .int .i64 0, .string (⟨#[]⟩ : ByteArray), .string (⟨#[]⟩ : ByteArray), .slice none 0 0, .slice none 0 0, .slice none 0 0]) (t := 45) ?hr ?_; (case hd => rfl); (case hg => rfl); (case hr => first | (go_simp; done) | (go_simp; rfl)); intro gb209 hg w76 hbox hb; have n0_ := Aside0.mk (below_step (by repeat (first | (with_reducible first | exact HB.out | apply below_alloc | apply pw_below_drewN | apply below_drew1) | exact HB.out)) hb); have n1_ := Aside0.mk (hbox); have n2_ := Aside0.mk ((by rw [hg]; exact (below_size (by repeat (first | (with_reducible first | exact HB.out | apply below_alloc | apply pw_below_drewN | apply below_drew1) | exact HB.out))) : w.heap.size ≤ gb209)); have n3_ := Aside0.mk ((by rw [hg]; exact (below_size (by repeat (first | (with_reducible first | exact HB.out | apply below_alloc | apply pw_below_drewN | apply below_drew1) | exact HB.out))) : w.heap.size ≤ gb209)); clear HB; have HB := n0_; have BK209 := n1_; have GW209 := n2_; have GE209 := n3_; clear n0_ n1_ n2_ n3_; clear hb hbox hg; have hcz77_0 : w76.cell? ⟨gb209, 0, none⟩ = some (.int .i64 0) := (blk_cell BK209.out 0).trans rfl; have hcz77_1 : w76.cell? ⟨gb209, 1, none⟩ = some (.int .i64 0) := (blk_cell BK209.out 1).trans rfl; have hcz77_2 : w76.cell? ⟨gb209, 2, none⟩ = some (.string (⟨#[]⟩ : ByteArray)) := (blk_cell BK209.out 2).trans rfl; have hcz77_3 : w76.cell? ⟨gb209, 3, none⟩ = some (.string (⟨#[]⟩ : ByteArray)) := (blk_cell BK209.out 3).trans rfl; have hcz77_4 : w76.cell? ⟨gb209, 4, none⟩ = some (.slice none 0 0) := (blk_cell BK209.out 4).trans rfl; have hcz77_5 : w76.cell? ⟨gb209, 5, none⟩ = some (.slice none 0 0) := (blk_cell BK209.out 5).trans rfl; have hcz77_6 : w76.cell? ⟨gb209, 6, none⟩ = some (.slice none 0 0) := (blk_cell BK209.out 6).trans rfl; have hfz77_0 := blk_frozen BK209.out 0; have hfz77_1 := blk_frozen BK209.out 1; have hfz77_2 := blk_frozen BK209.out 2; have hfz77_3 := blk_frozen BK209.out 3; have hfz77_4 := blk_frozen BK209.out 4; have hfz77_5 := blk_frozen BK209.out 5; have hfz77_6 := blk_frozen BK209.out 6) | ((with_reducible refine gate_callee (f := 25) rfl ?_); refine goesL_ (some 22) rfl rfl Tryd.func25 (by kernel_rfl) rfl #[.slice A208_4 ((rd_T45 l0 x6_1).f4).length c208_4, .int .i64 0] rfl (by (try simp only [List.map_toArray, List.map_cons, List.map_nil]); first | done | rfl | (simp only [List.length_drop, List.length_take]; rfl)) ?_; (with_reducible refine (witheref6_kid.calls k1 _ _ ((rd_T45 l0 x6_1).f4) 0 t210 _ ?side1 ?side2 A5.out).mono ?_); (case side1 => exact Kd.C_below HR208_4.out (by repeat (first | (with_reducible first | exact HB.out | apply below_alloc | apply pw_below_drewN | apply below_drew1 | refine below_set ?_ GE209.out) | exact HB.out))); (case side2 => exact HC208_4.out); rintro e w78 ⟨rfl, hb⟩; refine ⟨_, rfl, ?_⟩; have n0_ := Aside0.mk (blk_below (g := gb209) (o := .cells #[.int .i64 ((rd_T45 l0 x6_1).f0), .int .i64 ((rd_T45 l0 x6_1).f1), .string ((rd_T45 l0 x6_1).f2), .string ((rd_T45 l0 x6_1).f3), .slice A208_4 ((rd_T45 l0 x6_1).f4).length c208_4, .slice A208_5 ((rd_T45 l0 x6_1).f5).length c208_5, .slice A208_6 ((rd_T45 l0 x6_1).f6).length c208_6] 45 (0, 0)) (by (with_reducible repeat (first | refine blk_drewN ?_ _ | refine blk_drew ?_ | refine blk_alloc ?_ _)); refine blk_put (cs := #[.int .i64 ((rd_T45 l0 x6_1).f0), .int .i64 ((rd_T45 l0 x6_1).f1), .string ((rd_T45 l0 x6_1).f2), .string ((rd_T45 l0 x6_1).f3), .slice A208_4 ((rd_T45 l0 x6_1).f4).length c208_4, .slice A208_5 ((rd_T45 l0 x6_1).f5).length c208_5, .slice none 0 0]) ?_ 6 _ rfl; (with_reducible repeat (first | refine blk_drewN ?_ _ | refine blk_drew ?_ | refine blk_alloc ?_ _)); refine blk_put (cs := #[.int .i64 ((rd_T45 l0 x6_1).f0), .int .i64 ((rd_T45 l0 x6_1).f1), .string ((rd_T45 l0 x6_1).f2), .string ((rd_T45 l0 x6_1).f3), .slice A208_4 ((rd_T45 l0 x6_1).f4).length c208_4, .slice none 0 0, .slice none 0 0]) ?_ 5 _ rfl; (with_reducible repeat (first | refine blk_drewN ?_ _ | refine blk_drew ?_ | refine blk_alloc ?_ _)); refine blk_put (cs := #[.int .i64 ((rd_T45 l0 x6_1).f0), .int .i64 ((rd_T45 l0 x6_1).f1), .string ((rd_T45 l0 x6_1).f2), .string ((rd_T45 l0 x6_1).f3), .slice none 0 0, .slice none 0 0, .slice none 0 0]) ?_ 4 _ rfl; (with_reducible repeat (first | refine blk_drewN ?_ _ | refine blk_drew ?_ | refine blk_alloc ?_ _)); refine blk_put (cs := #[.int .i64 ((rd_T45 l0 x6_1).f0), .int .i64 ((rd_T45 l0 x6_1).f1), .string ((rd_T45 l0 x6_1).f2), .string (⟨#[]⟩ : ByteArray), .slice none 0 0, .slice none 0 0, .slice none 0 0]) ?_ 3 _ rfl; (with_reducible repeat (first | refine blk_drewN ?_ _ | refine blk_drew ?_ | refine blk_alloc ?_ _)); refine blk_put (cs := #[.int .i64 ((rd_T45 l0 x6_1).f0), .int .i64 ((rd_T45 l0 x6_1).f1), .string (⟨#[]⟩ : ByteArray), .string (⟨#[]⟩ : ByteArray), .slice none 0 0, .slice none 0 0, .slice none 0 0]) ?_ 2 _ rfl; (with_reducible repeat (first | refine blk_drewN ?_ _ | refine blk_drew ?_ | refine blk_alloc ?_ _)); refine blk_put (cs := #[.int .i64 ((rd_T45 l0 x6_1).f0), .int .i64 0, .string (⟨#[]⟩ : ByteArray), .string (⟨#[]⟩ : ByteArray), .slice none 0 0, .slice none 0 0, .slice none 0 0]) ?_ 1 _ rfl; (with_reducible repeat (first | refine blk_drewN ?_ _ | refine blk_drew ?_ | refine blk_alloc ?_ _)); refine blk_put (cs := #[.int .i64 0, .int .i64 0, .string (⟨#[]⟩ : ByteArray), .string (⟨#[]⟩ : ByteArray), .slice none 0 0, .slice none 0 0, .slice none 0 0]) ?_ 0 _ rfl; (with_reducible repeat (first | refine blk_drewN ?_ _ | refine blk_drew ?_ | refine blk_alloc ?_ _)); exact BK209.out) hb); have n1_ := Aside0.mk (below_step (by repeat (first | (with_reducible first | exact HB.out | apply below_alloc | apply pw_below_drewN | apply below_drew1 | refine below_set ?_ GE209.out) | exact HB.out)) hb); clear BK209; clear HB; have BK209 := n0_; have HB := n1_; clear n0_ n1_; (try clear hb); (try clear hb2); (try clear hk); (try clear hi)) | ((with_reducible refine gate_callee (f := 34) rfl ?_); refine goesL_ (some 24) rfl rfl Tryd.func34 (by kernel_rfl) rfl #[.int .i64 a1] rfl (by (try simp only [List.map_toArray, List.map_cons, List.map_nil]); first | done | rfl | (simp only [List.length_drop, List.length_take]; rfl)) ?_; (with_reducible refine (witheref6_in.calls k1 a1 t211 _ A6.out).mono ?_); rintro e w' ⟨rfl, ⟨nd, rfl⟩⟩; refine ⟨_, rfl, ?_⟩; have hcz79_0 : w78.cell? ⟨gb209, 0, none⟩ = some (.int .i64 ((rd_T45 l0 x6_1).f0)) := (blk_cell BK209.out 0).trans rfl; have hcz79_1 : w78.cell? ⟨gb209, 1, none⟩ = some (.int .i64 ((rd_T45 l0 x6_1).f1)) := (blk_cell BK209.out 1).trans rfl; have hcz79_2 : w78.cell? ⟨gb209, 2, none⟩ = some (.string ((rd_T45 l0 x6_1).f2)) := (blk_cell BK209.out 2).trans rfl; have hcz79_3 : w78.cell? ⟨gb209, 3, none⟩ = some (.string ((rd_T45 l0 x6_1).f3)) := (blk_cell BK209.out 3).trans rfl; have hcz79_4 : w78.cell? ⟨gb209, 4, none⟩ = some (.slice A208_4 ((rd_T45 l0 x6_1).f4).length c208_4) := (blk_cell BK209.out 4).trans rfl; have hcz79_5 : w78.cell? ⟨gb209, 5, none⟩ = some (.slice A208_5 ((rd_T45 l0 x6_1).f5).length c208_5) := (blk_cell BK209.out 5).trans rfl; have hcz79_6 : w78.cell? ⟨gb209, 6, none⟩ = some (.slice A208_6 ((rd_T45 l0 x6_1).f6).length c208_6) := (blk_cell BK209.out 6).trans rfl; have hfz79_0 := blk_frozen BK209.out 0; have hfz79_1 := blk_frozen BK209.out 1; have hfz79_2 := blk_frozen BK209.out 2; have hfz79_3 := blk_frozen BK209.out 3; have hfz79_4 := blk_frozen BK209.out 4; have hfz79_5 := blk_frozen BK209.out 5; have hfz79_6 := blk_frozen BK209.out 6))
                     (try (rw [drewN_self w78]; generalize hq_ : World.drewN w78 _ = w78; have n0_ : Aside0 (w78.heap[gb209]? = some (.cells #[.int .i64 ((rd_T45 l0 x6_1).f0), .int .i64 ((rd_T45 l0 x6_1).f1), .string ((rd_T45 l0 x6_1).f2), .string ((rd_T45 l0 x6_1).f3), .slice A208_4 ((rd_T45 l0 x6_1).f4).length c208_4, .slice A208_5 ((rd_T45 l0 x6_1).f5).length c208_5, .slice A208_6 ((rd_T45 l0 x6_1).f6).length c208_6] 45 (0, 0))) := ⟨by rw [← hq_]; exact (by (with_reducible repeat (first | refine blk_drewN ?_ _ | refine blk_drew ?_ | refine blk_alloc ?_ _)); exact BK209.out)⟩; have n1_ : Aside0 (Below w.heap.size w w78) := ⟨by rw [← hq_]; exact (by repeat (first | (with_reducible first | exact HB.out | apply below_alloc | apply pw_below_drewN | apply below_drew1 | refine below_set ?_ GE209.out) | exact HB.out))⟩; clear BK209 HB hq_; have BK209 := n0_; have HB := n1_; clear n0_ n1_))
                     have n0_ := Aside0.mk (blk_drew BK209.out)
                     have n1_ := Aside0.mk (below_drew1 HB.out)
                     clear BK209
                     clear HB
                     have BK209 := n0_
                     have HB := n1_
                     clear n0_ n1_
                     refine start_ (n := 25) (S := fun w' => w'.cell? ⟨gb209, 0, none⟩ = some (.int .i64 ((rd_T45 l0 x6_1).f0)) ∧ w'.cell? ⟨gb209, 1, none⟩ = some (.int .i64 ((rd_T45 l0 x6_1).f1)) ∧ w'.cell? ⟨gb209, 2, none⟩ = some (.string ((rd_T45 l0 x6_1).f2)) ∧ w'.cell? ⟨gb209, 3, none⟩ = some (.string ((rd_T45 l0 x6_1).f3)) ∧ w'.cell? ⟨gb209, 4, none⟩ = some (.slice A208_4 ((rd_T45 l0 x6_1).f4).length c208_4) ∧ w'.cell? ⟨gb209, 5, none⟩ = some (.slice A208_5 ((rd_T45 l0 x6_1).f5).length c208_5) ∧ w'.cell? ⟨gb209, 6, none⟩ = some (.slice A208_6 ((rd_T45 l0 x6_1).f6).length c208_6)) (ds := []) #[false, false, false, false, false, false, false, false, false, false, false, false, false, false, false, false, false, false, false, false, false, false, false, false, false] (by kernel_rfl) rfl rfl ⟨(blk_cell BK209.out 0).trans rfl, (blk_cell BK209.out 1).trans rfl, (blk_cell BK209.out 2).trans rfl, (blk_cell BK209.out 3).trans rfl, (blk_cell BK209.out 4).trans rfl, (blk_cell BK209.out 5).trans rfl, (blk_cell BK209.out 6).trans rfl⟩ (fun hHeld => ?_); refine with_tabW witheref6_lines.tab18 witheref6_lines.bits18 (fun HT_ HW_ => ?_)
                     generalize w78.drew = w80 at BK209 HB hHeld ⊢
                     refine pure_ (i := 0) (N := some 98) (v := ?_) (a' := ?_) #[true, false, false, false, false, false, false, false, false, false, false, false, false, false, false, false, false, false, false, false, false, false, false, false, false] rfl rfl (any_of HT_.out (by kernel_rfl)) (fun _ _ _ h => h) (Or.inl ⟨by rfl, ?_⟩) ?_ ?_
                     rotate_left
                     ·intro w'
                      go_simp
                      with_reducible rfl
                     rotate_left
                     ·simp only [Act.put, List.setIfInBounds_toArray, List.set_cons_zero, List.set_cons_succ, i64_w, i32_w]
                      rfl
                     refine pure_ (i := 1) (N := some 99) (v := ?_) (a' := ?_) #[true, true, false, false, false, false, false, false, false, false, false, false, false, false, false, false, false, false, false, false, false, false, false, false, false] rfl rfl (any_of HT_.out (by kernel_rfl)) (fun _ _ _ h => h) (Or.inl ⟨by rfl, ?_⟩) ?_ ?_
                     rotate_left
                     ·intro w'
                      go_simp
                      with_reducible rfl
                     rotate_left
                     ·simp only [Act.put, List.setIfInBounds_toArray, List.set_cons_zero, List.set_cons_succ, i64_w, i32_w]
                      rfl
                     refine pure_ (i := 2) (N := some 100) (v := ?_) (a' := ?_) #[true, true, true, false, false, false, false, false, false, false, false, false, false, false, false, false, false, false, false, false, false, false, false, false, false] rfl rfl (any_of HT_.out (by kernel_rfl)) (fun _ _ _ h => h) (Or.inl ⟨by rfl, ?_⟩) ?_ ?_
                     rotate_left
                     ·intro w'
                      go_simp
                      with_reducible rfl
                     rotate_left
                     ·simp only [Act.put, List.setIfInBounds_toArray, List.set_cons_zero, List.set_cons_succ, i64_w, i32_w]
                      rfl
                     refine pure_ (i := 3) (N := some 101) (v := ?_) (a' := ?_) #[true, true, true, true, false, false, false, false, false, false, false, false, false, false, false, false, false, false, false, false, false, false, false, false, false] rfl rfl (any_of HT_.out (by kernel_rfl)) (fun _ _ _ h => h) (Or.inl ⟨by rfl, ?_⟩) ?_ ?_
                     rotate_left
                     ·intro w'
                      go_simp
                      with_reducible rfl
                     rotate_left
                     ·simp only [Act.put, List.setIfInBounds_toArray, List.set_cons_zero, List.set_cons_succ, i64_w, i32_w]
                      rfl
                     refine pure_ (i := 7) (N := some 105) (v := ?_) (a' := ?_) #[true, true, true, true, false, false, false, true, false, false, false, false, false, false, false, false, false, false, false, false, false, false, false, false, false] rfl rfl (any_of HT_.out (by kernel_rfl)) (fun _ _ _ h => h) (Or.inl ⟨by rfl, ?_⟩) ?_ ?_
                     rotate_left
                     ·intro w'
                      go_simp
                      with_reducible rfl
                     rotate_left
                     ·simp only [Act.put, List.setIfInBounds_toArray, List.set_cons_zero, List.set_cons_succ, i64_w, i32_w]
                      rfl
                     refine pure_ (i := 12) (N := some 110) (v := ?_) (a' := ?_) #[true, true, true, true, false, false, false, true, false, false, false, false, true, false, false, false, false, false, false, false, false, false, false, false, false] rfl rfl (any_of HT_.out (by kernel_rfl)) (fun _ _ _ h => h) (Or.inl ⟨by rfl, ?_⟩) ?_ ?_
                     rotate_left
                     ·intro w'
                      go_simp
                      with_reducible rfl
                     rotate_left
                     ·simp only [Act.put, List.setIfInBounds_toArray, List.set_cons_zero, List.set_cons_succ, i64_w, i32_w]
                      rfl
                     refine pure_ (i := 16) (N := some 114) (v := ?_) (a' := ?_) #[true, true, true, true, false, false, false, true, false, false, false, false, true, false, false, false, true, false, false, false, false, false, false, false, false] rfl rfl (any_of HT_.out (by kernel_rfl)) (fun _ _ _ h => h) (Or.inl ⟨by rfl, ?_⟩) ?_ ?_
                     rotate_left
                     ·intro w'
                      go_simp
                      with_reducible rfl
                     rotate_left
                     ·simp only [Act.put, List.setIfInBounds_toArray, List.set_cons_zero, List.set_cons_succ, i64_w, i32_w]
                      rfl
                     refine pure_ (i := 19) (N := some 117) (v := ?_) (a' := ?_) #[true, true, true, true, false, false, false, true, false, false, false, false, true, false, false, false, true, false, false, true, false, false, false, false, false] rfl rfl (any_of HT_.out (by kernel_rfl)) (fun _ _ _ h => h) (Or.inl ⟨by rfl, ?_⟩) ?_ ?_
                     rotate_left
                     ·intro w'
                      go_simp
                      with_reducible rfl
                     rotate_left
                     ·simp only [Act.put, List.setIfInBounds_toArray, List.set_cons_zero, List.set_cons_succ, i64_w, i32_w]
                      rfl
                     refine take_ (i := 4) (N := some 102) (v := ?_) (a' := ?_) #[true, true, true, true, true, false, false, true, false, false, false, false, true, false, false, false, true, false, false, true, false, false, false, false, false] rfl rfl (take_ofW HT_.out HW_.out (by kernel_rfl)) (fun _ _ _ h => h) (Or.inl ⟨by rfl, ?_⟩) hHeld ?_ ?_
                     rotate_left
                     ·rintro w' ⟨s0, s1, s2, s3, s4, s5, s6⟩
                      go_simp
                      with_reducible rfl
                     rotate_left
                     ·simp only [Act.put, List.setIfInBounds_toArray, List.set_cons_zero, List.set_cons_succ, i64_w, i32_w]
                      rfl
                     refine pure_ (i := 5) (N := some 103) (v := ?_) (a' := ?_) #[true, true, true, true, true, true, false, true, false, false, false, false, true, false, false, false, true, false, false, true, false, false, false, false, false] rfl rfl (any_of HT_.out (by kernel_rfl)) (fun _ _ _ h => h) (Or.inl ⟨by rfl, ?_⟩) ?_ ?_
                     rotate_left
                     ·intro w'
                      go_simp
                      with_reducible rfl
                     rotate_left
                     ·simp only [Act.put, List.setIfInBounds_toArray, List.set_cons_zero, List.set_cons_succ, i64_w, i32_w]
                      rfl
                     refine pure_ (i := 6) (N := some 104) (v := ?_) (a' := ?_) #[true, true, true, true, true, true, true, true, false, false, false, false, true, false, false, false, true, false, false, true, false, false, false, false, false] rfl rfl (any_of HT_.out (by kernel_rfl)) (fun _ _ _ h => h) (Or.inl ⟨by rfl, ?_⟩) ?_ ?_
                     rotate_left
                     ·intro w'
                      go_simp
                      with_reducible rfl
                     rotate_left
                     ·simp only [Act.put, List.setIfInBounds_toArray, List.set_cons_zero, List.set_cons_succ, i64_w, i32_w]
                      rfl
                     refine take_ (i := 8) (N := some 106) (v := ?_) (a' := ?_) #[true, true, true, true, true, true, true, true, true, false, false, false, true, false, false, false, true, false, false, true, false, false, false, false, false] rfl rfl (take_ofW HT_.out HW_.out (by kernel_rfl)) (fun _ _ _ h => h) (Or.inl ⟨by rfl, ?_⟩) hHeld ?_ ?_
                     rotate_left
                     ·rintro w' ⟨s0, s1, s2, s3, s4, s5, s6⟩
                      go_simp
                      with_reducible rfl
                     rotate_left
                     ·simp only [Act.put, List.setIfInBounds_toArray, List.set_cons_zero, List.set_cons_succ, i64_w, i32_w]
                      rfl
                     refine take_ (i := 13) (N := some 111) (v := ?_) (a' := ?_) #[true, true, true, true, true, true, true, true, true, false, false, false, true, true, false, false, true, false, false, true, false, false, false, false, false] rfl rfl (take_ofW HT_.out HW_.out (by kernel_rfl)) (fun _ _ _ h => h) (Or.inl ⟨by rfl, ?_⟩) hHeld ?_ ?_
                     rotate_left
                     ·rintro w' ⟨s0, s1, s2, s3, s4, s5, s6⟩
                      go_simp
                      with_reducible rfl
                     rotate_left
                     ·simp only [Act.put, List.setIfInBounds_toArray, List.set_cons_zero, List.set_cons_succ, i64_w, i32_w]
                      rfl
                     refine take_ (i := 20) (N := some 118) (v := ?_) (a' := ?_) #[true, true, true, true, true, true, true, true, true, false, false, false, true, true, false, false, true, false, false, true, true, false, false, false, false] rfl rfl (take_ofW HT_.out HW_.out (by kernel_rfl)) (fun _ _ _ h => h) (Or.inl ⟨by rfl, ?_⟩) hHeld ?_ ?_
                     rotate_left
                     ·rintro w' ⟨s0, s1, s2, s3, s4, s5, s6⟩
                      go_simp
                      with_reducible rfl
                     rotate_left
                     ·simp only [Act.put, List.setIfInBounds_toArray, List.set_cons_zero, List.set_cons_succ, i64_w, i32_w]
                      rfl
                     refine one_ (i := 9) (N := some 107) #[true, true, true, true, true, true, true, true, true, true, false, false, true, true, false, false, true, false, false, true, true, false, false, false, false] rfl rfl (one_of HT_.out (by kernel_rfl)) (by decide) (fun K hK => ?_)
                     refine goes_ Tryd.func15 (by kernel_rfl) rfl #[.int .i64 ((rd_T45 l0 x6_1).f1)] (by rfl) rfl rfl (by (try simp only [List.map_toArray, List.map_cons, List.map_nil]); first | done | rfl | (simp only [List.length_drop, List.length_take]; rfl)) ?_
                     with_reducible refine (witheref6_Mode.calls ((rd_T45 l0 x6_1).f1) t215 _ A66.out).mono ?_
                     rintro e w' ⟨rfl, ⟨nd, rfl⟩⟩
                     refine ⟨_, rfl, ?_⟩
                     refine hK.out _ _ ⟨(blk_cell BK209.out 0).trans rfl, (blk_cell BK209.out 1).trans rfl, (blk_cell BK209.out 2).trans rfl, (blk_cell BK209.out 3).trans rfl, (blk_cell BK209.out 4).trans rfl, (blk_cell BK209.out 5).trans rfl, (blk_cell BK209.out 6).trans rfl⟩ (fun hHeld => ?_)
                     clear hK K
                     refine norm_ (a' := ?_) ?_ ?_
                     rotate_left
                     ·show Act.put _ (some 107) _ = _
                      simp only [Act.put, List.setIfInBounds_toArray, List.set_cons_zero, List.set_cons_succ, i64_w, i32_w]
                      rfl
                     refine pure_ (i := 10) (N := some 108) (v := ?_) (a' := ?_) #[true, true, true, true, true, true, true, true, true, true, true, false, true, true, false, false, true, false, false, true, true, false, false, false, false] rfl rfl (any_of HT_.out (by kernel_rfl)) (fun _ _ _ h => h) (Or.inl ⟨by rfl, ?_⟩) ?_ ?_
                     rotate_left
                     ·intro w'
                      go_simp
                      with_reducible rfl
                     rotate_left
                     ·simp only [Act.put, List.setIfInBounds_toArray, List.set_cons_zero, List.set_cons_succ, i64_w, i32_w]
                      rfl
                     refine pure_ (i := 11) (N := some 109) (v := ?_) (a' := ?_) #[true, true, true, true, true, true, true, true, true, true, true, true, true, true, false, false, true, false, false, true, true, false, false, false, false] rfl rfl (any_of HT_.out (by kernel_rfl)) (fun _ _ _ h => h) (Or.inl ⟨by rfl, ?_⟩) ?_ ?_
                     rotate_left
                     ·intro w'
                      go_simp
                      with_reducible rfl
                     rotate_left
                     ·simp only [Act.put, List.setIfInBounds_toArray, List.set_cons_zero, List.set_cons_succ, i64_w, i32_w]
                      rfl
                     refine pure_ (i := 14) (N := some 112) (v := ?_) (a' := ?_) #[true, true, true, true, true, true, true, true, true, true, true, true, true, true, true, false, true, false, false, true, true, false, false, false, false] rfl rfl (any_of HT_.out (by kernel_rfl)) (fun _ _ _ h => h) (Or.inl ⟨by rfl, ?_⟩) ?_ ?_
                     rotate_left
                     ·intro w'
                      go_simp
                      with_reducible rfl
                     rotate_left
                     ·simp only [Act.put, List.setIfInBounds_toArray, List.set_cons_zero, List.set_cons_succ, i64_w, i32_w]
                      rfl
                     refine pure_ (i := 15) (N := some 113) (v := ?_) (a' := ?_) #[true, true, true, true, true, true, true, true, true, true, true, true, true, true, true, true, true, false, false, true, true, false, false, false, false] rfl rfl (any_of HT_.out (by kernel_rfl)) (fun _ _ _ h => h) (Or.inl ⟨by rfl, ?_⟩) ?_ ?_
                     rotate_left
                     ·intro w'
                      go_simp
                      with_reducible rfl
                     rotate_left
                     ·simp only [Act.put, List.setIfInBounds_toArray, List.set_cons_zero, List.set_cons_succ, i64_w, i32_w]
                      rfl
                     refine pure_ (i := 17) (N := some 115) (v := ?_) (a' := ?_) #[true, true, true, true, true, true, true, true, true, true, true, true, true, true, true, true, true, true, false, true, true, false, false, false, false] rfl rfl (any_of HT_.out (by kernel_rfl)) (fun _ _ _ h => h) (Or.inl ⟨by rfl, ?_⟩) ?_ ?_
                     rotate_left
                     ·intro w'
                      go_simp
                      with_reducible rfl
                     rotate_left
                     ·simp only [Act.put, List.setIfInBounds_toArray, List.set_cons_zero, List.set_cons_succ, i64_w, i32_w]
                      rfl
                     refine pure_ (i := 18) (N := some 116) (v := ?_) (a' := ?_) #[true, true, true, true, true, true, true, true, true, true, true, true, true, true, true, true, true, true, true, true, true, false, false, false, false] rfl rfl (any_of HT_.out (by kernel_rfl)) (fun _ _ _ h => h) (Or.inl ⟨by rfl, ?_⟩) ?_ ?_
                     rotate_left
                     ·intro w'
                      go_simp
                      with_reducible rfl
                     rotate_left
                     ·simp only [Act.put, List.setIfInBounds_toArray, List.set_cons_zero, List.set_cons_succ, i64_w, i32_w]
                      rfl
                     refine one_ (i := 21) (N := some 119) #[true, true, true, true, true, true, true, true, true, true, true, true, true, true, true, true, true, true, true, true, true, true, false, false, false] rfl rfl (one_of HT_.out (by kernel_rfl)) (by decide) (fun K hK => ?_)
                     refine goes_ Tryd.func25 (by kernel_rfl) rfl #[.slice A208_4 ((rd_T45 l0 x6_1).f4).length c208_4, .int .i64 1] (by rfl) rfl rfl (by (try simp only [List.map_toArray, List.map_cons, List.map_nil]); first | done | rfl | (simp only [List.length_drop, List.length_take]; rfl)) ?_
                     with_reducible refine (witheref6_kid.calls k1 _ _ ((rd_T45 l0 x6_1).f4) 1 t216 _ ?side1 ?side2 A73.out).mono ?_
                     (case side1 => repeat (first | exact (Kd.C_below HR208_4.out (by repeat (first | (with_reducible first | exact HB.out | apply below_alloc | apply pw_below_drewN | apply below_drew1 | refine below_set ?_ GE209.out) | exact HB.out))) | (with_reducible refine Kd.C_alloc ?_ _) | (with_reducible refine Kd.C_drewN ?_ _) | (with_reducible refine Kd.C_drew ?_)))
                     (case side2 => exact HC208_4.out)
                     rintro e w81 ⟨rfl, hb⟩
                     refine ⟨_, rfl, ?_⟩
                     have n0_ := Aside0.mk (blk_below (g := gb209) (o := .cells #[.int .i64 ((rd_T45 l0 x6_1).f0), .int .i64 ((rd_T45 l0 x6_1).f1), .string ((rd_T45 l0 x6_1).f2), .string ((rd_T45 l0 x6_1).f3), .slice A208_4 ((rd_T45 l0 x6_1).f4).length c208_4, .slice A208_5 ((rd_T45 l0 x6_1).f5).length c208_5, .slice A208_6 ((rd_T45 l0 x6_1).f6).length c208_6] 45 (0, 0)) (by (with_reducible repeat (first | refine blk_drewN ?_ _ | refine blk_drew ?_ | refine blk_alloc ?_ _)); exact BK209.out) hb)
                     have n1_ := Aside0.mk (below_step (by repeat (first | (with_reducible first | exact HB.out | apply below_alloc | apply pw_below_drewN | apply below_drew1 | refine below_set ?_ GE209.out) | exact HB.out)) hb)
                     clear BK209
                     clear HB
                     have BK209 := n0_
                     have HB := n1_
                     clear n0_ n1_
                     (try clear hb)
                     (try clear hb2)
                     (try clear hk)
                     (try clear hi)
                     refine hK.out _ _ ⟨(blk_cell BK209.out 0).trans rfl, (blk_cell BK209.out 1).trans rfl, (blk_cell BK209.out 2).trans rfl, (blk_cell BK209.out 3).trans rfl, (blk_cell BK209.out 4).trans rfl, (blk_cell BK209.out 5).trans rfl, (blk_cell BK209.out 6).trans rfl⟩ (fun hHeld => ?_)
                     clear hK K
                     refine norm_ (a' := ?_) ?_ ?_
                     rotate_left
                     ·show Act.put _ (some 119) _ = _
                      simp only [Act.put, List.setIfInBounds_toArray, List.set_cons_zero, List.set_cons_succ, i64_w, i32_w]
                      rfl
                     refine pure_ (i := 22) (N := some 120) (v := ?_) (a' := ?_) #[true, true, true, true, true, true, true, true, true, true, true, true, true, true, true, true, true, true, true, true, true, true, true, false, false] rfl rfl (any_of HT_.out (by kernel_rfl)) (fun _ _ _ h => h) (Or.inl ⟨by rfl, ?_⟩) ?_ ?_
                     rotate_left
                     ·intro w'
                      go_simp
                      with_reducible rfl
                     rotate_left
                     ·simp only [Act.put, List.setIfInBounds_toArray, List.set_cons_zero, List.set_cons_succ, i64_w, i32_w]
                      rfl
                     refine pure_ (i := 23) (N := some 121) (v := ?_) (a' := ?_) #[true, true, true, true, true, true, true, true, true, true, true, true, true, true, true, true, true, true, true, true, true, true, true, true, false] rfl rfl (any_of HT_.out (by kernel_rfl)) (fun _ _ _ h => h) (Or.inl ⟨by rfl, ?_⟩) ?_ ?_
                     rotate_left
                     ·intro w'
                      go_simp
                      with_reducible rfl
                     rotate_left
                     ·simp only [Act.put, List.setIfInBounds_toArray, List.set_cons_zero, List.set_cons_succ, i64_w, i32_w]
                      rfl
                     refine pure_ (i := 24) (N := some 5) (v := ?_) (a' := ?_) #[true, true, true, true, true, true, true, true, true, true, true, true, true, true, true, true, true, true, true, true, true, true, true, true, true] rfl rfl (any_of HT_.out (by kernel_rfl)) (fun _ _ _ h => h) (Or.inl ⟨by rfl, ?_⟩) ?_ ?_
                     rotate_left
                     ·intro w'
                      go_simp
                      with_reducible rfl
                     rotate_left
                     ·simp only [Act.put, List.setIfInBounds_toArray, List.set_cons_zero, List.set_cons_succ, i64_w, i32_w]
                      rfl
                     refine done_ (done_of HT_.out (by kernel_rfl)) ?_
                     try go_wp2
                     go_roundg k1
                     case measure => have := HK1.out; omega
                     case rel => exact ⟨(((((((((((x5_1 ++ t211) ++ ((rd_T45 l0 x6_1).f2)) ++ (⟨#[32, 61, 32, 99, 97, 115, 32]⟩ : ByteArray)) ++ t215) ++ (⟨#[32]⟩ : ByteArray)) ++ ((rd_T45 l0 x6_1).f3)) ++ (⟨#[32]⟩ : ByteArray)) ++ t210) ++ (⟨#[44, 32]⟩ : ByteArray)) ++ t216) ++ (⟨#[59, 10]⟩ : ByteArray)), (wrap64 (x6_1 + 1)), (by first | rfl | (simp; done) | (simp [*]; done)), (by first | rfl | (simp; done) | (simp [*]; done)), H', ⟨by have := HK1.out; omega⟩, ⟨by repeat (first | (with_reducible first | exact HB.out | apply below_alloc | apply pw_below_drewN | apply below_drew1 | refine below_set ?_ GE209.out) | exact HB.out)⟩⟩
                    ·rw [if_neg c75] at H
                     exact absurd H (by simp)
                   ·rw [if_neg c74] at H
                    exact absurd H (by simp)
                  ·rw [if_neg c72] at H
                   exact absurd H (by simp)
                 ·rw [if_neg c71] at H
                  exact absurd H (by simp)
                ·rw [if_neg c70] at H
                 exact absurd H (by simp)
               ·rw [if_neg c69] at H
                exact absurd H (by simp)
              ·rw [if_neg c68] at H
               exact absurd H (by simp)
             ·rw [if_neg c67] at H
              exact absurd H (by simp)
            ·rw [if_neg c65] at H
             exact absurd H (by simp)
           ·rw [if_neg c64] at H
            exact absurd H (by simp)
          ·rw [if_neg c63] at H
           exact absurd H (by simp)
         ·rw [if_neg c62] at H
          have c62b0 : (((rd_T45 l0 x6_1).f0) == 5) = false := beq_eq_false_iff_ne.mpr c62
          have c62b1 : (((rd_T45 l0 x6_1).f0) != 5) = true := bne_iff_ne.mpr c62
          by_cases c82 : ((rd_T45 l0 x6_1).f0) = 6
          ·rw [if_pos c82] at H
           have c82b0 : (((rd_T45 l0 x6_1).f0) == 6) = true := beq_iff_eq.mpr c82
           have c82b1 : (((rd_T45 l0 x6_1).f0) != 6) = false := bne_eq_false_iff_eq.mpr c82
           clear c82
           by_cases c83 : x5_1.size + t211.size ≤ 9223372036854775807
           ·rw [if_pos c83] at H
            have c83b0 := eq_true c83
            have c83b1 : decide (x5_1.size + t211.size ≤ 9223372036854775807) = true := decide_eq_true c83
            try have c83b2 : (9223372036854775807 < x5_1.size + t211.size) = False := eq_false (Nat.not_lt.2 c83)
            by_cases c84 : (x5_1 ++ t211).size + 6 ≤ 9223372036854775807
            ·rw [if_pos c84] at H
             have c84b0 := eq_true c84
             have c84b1 : decide ((x5_1 ++ t211).size + 6 ≤ 9223372036854775807) = true := decide_eq_true c84
             try (have c84b1s := c84b1; simp only [ByteArray.size_append] at c84b1s)
             try have c84b2 : (9223372036854775807 < (x5_1 ++ t211).size + 6) = False := eq_false (Nat.not_lt.2 c84)
             try (have c84b2s := c84b2; simp only [ByteArray.size_append] at c84b2s)
             replace H := Option.bind_eq_some_iff.mp H
             obtain ⟨t217, A850, H⟩ := H
             replace H : (if ((x5_1 ++ t211) ++ (⟨#[102, 101, 110, 99, 101, 32]⟩ : ByteArray)).size + t217.size ≤ 9223372036854775807 then (if (((x5_1 ++ t211) ++ (⟨#[102, 101, 110, 99, 101, 32]⟩ : ByteArray)) ++ t217).size + 2 ≤ 9223372036854775807 then (witheref6_lines.l0 k1 l0 a1 ((((x5_1 ++ t211) ++ (⟨#[102, 101, 110, 99, 101, 32]⟩ : ByteArray)) ++ t217) ++ (⟨#[59, 10]⟩ : ByteArray)) (wrap64 (x6_1 + 1))) else (none)) else (none)) = some r := H
             have A85 := Aside0.mk A850
             clear A850
             by_cases c86 : ((x5_1 ++ t211) ++ (⟨#[102, 101, 110, 99, 101, 32]⟩ : ByteArray)).size + t217.size ≤ 9223372036854775807
             ·rw [if_pos c86] at H
              have c86b0 := eq_true c86
              have c86b1 : decide (((x5_1 ++ t211) ++ (⟨#[102, 101, 110, 99, 101, 32]⟩ : ByteArray)).size + t217.size ≤ 9223372036854775807) = true := decide_eq_true c86
              try (have c86b1s := c86b1; simp only [ByteArray.size_append, show (⟨#[102, 101, 110, 99, 101, 32]⟩ : ByteArray).size = 6 from rfl] at c86b1s)
              try have c86b2 : (9223372036854775807 < ((x5_1 ++ t211) ++ (⟨#[102, 101, 110, 99, 101, 32]⟩ : ByteArray)).size + t217.size) = False := eq_false (Nat.not_lt.2 c86)
              try (have c86b2s := c86b2; simp only [ByteArray.size_append, show (⟨#[102, 101, 110, 99, 101, 32]⟩ : ByteArray).size = 6 from rfl] at c86b2s)
              by_cases c87 : (((x5_1 ++ t211) ++ (⟨#[102, 101, 110, 99, 101, 32]⟩ : ByteArray)) ++ t217).size + 2 ≤ 9223372036854775807
              ·rw [if_pos c87] at H
               have c87b0 := eq_true c87
               have c87b1 : decide ((((x5_1 ++ t211) ++ (⟨#[102, 101, 110, 99, 101, 32]⟩ : ByteArray)) ++ t217).size + 2 ≤ 9223372036854775807) = true := decide_eq_true c87
               try (have c87b1s := c87b1; simp only [ByteArray.size_append, show (⟨#[102, 101, 110, 99, 101, 32]⟩ : ByteArray).size = 6 from rfl] at c87b1s)
               try have c87b2 : (9223372036854775807 < (((x5_1 ++ t211) ++ (⟨#[102, 101, 110, 99, 101, 32]⟩ : ByteArray)) ++ t217).size + 2) = False := eq_false (Nat.not_lt.2 c87)
               try (have c87b2s := c87b2; simp only [ByteArray.size_append, show (⟨#[102, 101, 110, 99, 101, 32]⟩ : ByteArray).size = 6 from rfl] at c87b2s)
               have H' := Aside0.mk H
               clear H
               have p208 : 0 ≤ (x6_1 : Int) := of_decide_eq_true (by first | (with_reducible assumption) | assumption)
               have q208 : x6_1 < (l0.length : Int) := of_decide_eq_true (by first | (with_reducible assumption) | assumption)
               obtain ⟨ad208, A208_4, c208_4, A208_5, c208_5, A208_6, c208_6, e208, hx208_0, hx208_1, hx208_2, hx208_3, hx208_4, hx208_5, hx208_6, hl208_4, hi208_4, hl208_5, hi208_5, hl208_6, hi208_6⟩ := at_T45 HR0.out x6_1 p208 q208
               cases e208
               replace hx208_0 := (HB.out.cell (World.block_lt_of_cell? w _ hx208_0)).trans hx208_0
               replace hx208_1 := (HB.out.cell (World.block_lt_of_cell? w _ hx208_1)).trans hx208_1
               replace hx208_2 := (HB.out.cell (World.block_lt_of_cell? w _ hx208_2)).trans hx208_2
               replace hx208_3 := (HB.out.cell (World.block_lt_of_cell? w _ hx208_3)).trans hx208_3
               replace hx208_4 := (HB.out.cell (World.block_lt_of_cell? w _ hx208_4)).trans hx208_4
               replace hx208_5 := (HB.out.cell (World.block_lt_of_cell? w _ hx208_5)).trans hx208_5
               replace hx208_6 := (HB.out.cell (World.block_lt_of_cell? w _ hx208_6)).trans hx208_6
               have HR208_4 := Aside0.mk hi208_4
               have HC208_4 := Aside0.mk hl208_4
               clear hi208_4 hl208_4
               have HR208_5 := Aside0.mk hi208_5
               have HC208_5 := Aside0.mk hl208_5
               clear hi208_5 hl208_5
               have HR208_6 := Aside0.mk hi208_6
               have HC208_6 := Aside0.mk hl208_6
               clear hi208_6 hl208_6
               replace p208 := eq_true p208
               replace q208 := eq_true q208
               go_wp2_with (first | ((with_reducible refine gate_dst (N := 7) rfl ?_); refine box_event ?hg (N := 7) ?hd (cs := #[.int .i64 0, .int .i64 0, .string (⟨#[]⟩ : ByteArray), .string (⟨#[]⟩ : ByteArray), .slice none 0 0, .slice none 0 0, .slice none 0 0]) (t := 45) ?hr ?_; (case hd => rfl); (case hg => rfl); (case hr => first | (go_simp; done) | (go_simp; rfl)); intro gb209 hg w88 hbox hb; have n0_ := Aside0.mk (below_step (by repeat (first | (with_reducible first | exact HB.out | apply below_alloc | apply pw_below_drewN | apply below_drew1) | exact HB.out)) hb); have n1_ := Aside0.mk (hbox); have n2_ := Aside0.mk ((by rw [hg]; exact (below_size (by repeat (first | (with_reducible first | exact HB.out | apply below_alloc | apply pw_below_drewN | apply below_drew1) | exact HB.out))) : w.heap.size ≤ gb209)); have n3_ := Aside0.mk ((by rw [hg]; exact (below_size (by repeat (first | (with_reducible first | exact HB.out | apply below_alloc | apply pw_below_drewN | apply below_drew1) | exact HB.out))) : w.heap.size ≤ gb209)); clear HB; have HB := n0_; have BK209 := n1_; have GW209 := n2_; have GE209 := n3_; clear n0_ n1_ n2_ n3_; clear hb hbox hg; have hcz89_0 : w88.cell? ⟨gb209, 0, none⟩ = some (.int .i64 0) := (blk_cell BK209.out 0).trans rfl; have hcz89_1 : w88.cell? ⟨gb209, 1, none⟩ = some (.int .i64 0) := (blk_cell BK209.out 1).trans rfl; have hcz89_2 : w88.cell? ⟨gb209, 2, none⟩ = some (.string (⟨#[]⟩ : ByteArray)) := (blk_cell BK209.out 2).trans rfl; have hcz89_3 : w88.cell? ⟨gb209, 3, none⟩ = some (.string (⟨#[]⟩ : ByteArray)) := (blk_cell BK209.out 3).trans rfl; have hcz89_4 : w88.cell? ⟨gb209, 4, none⟩ = some (.slice none 0 0) := (blk_cell BK209.out 4).trans rfl; have hcz89_5 : w88.cell? ⟨gb209, 5, none⟩ = some (.slice none 0 0) := (blk_cell BK209.out 5).trans rfl; have hcz89_6 : w88.cell? ⟨gb209, 6, none⟩ = some (.slice none 0 0) := (blk_cell BK209.out 6).trans rfl; have hfz89_0 := blk_frozen BK209.out 0; have hfz89_1 := blk_frozen BK209.out 1; have hfz89_2 := blk_frozen BK209.out 2; have hfz89_3 := blk_frozen BK209.out 3; have hfz89_4 := blk_frozen BK209.out 4; have hfz89_5 := blk_frozen BK209.out 5; have hfz89_6 := blk_frozen BK209.out 6) | ((with_reducible refine gate_callee (f := 25) rfl ?_); refine goesL_ (some 22) rfl rfl Tryd.func25 (by kernel_rfl) rfl #[.slice A208_4 ((rd_T45 l0 x6_1).f4).length c208_4, .int .i64 0] rfl (by (try simp only [List.map_toArray, List.map_cons, List.map_nil]); first | done | rfl | (simp only [List.length_drop, List.length_take]; rfl)) ?_; (with_reducible refine (witheref6_kid.calls k1 _ _ ((rd_T45 l0 x6_1).f4) 0 t210 _ ?side1 ?side2 A5.out).mono ?_); (case side1 => exact Kd.C_below HR208_4.out (by repeat (first | (with_reducible first | exact HB.out | apply below_alloc | apply pw_below_drewN | apply below_drew1 | refine below_set ?_ GE209.out) | exact HB.out))); (case side2 => exact HC208_4.out); rintro e w90 ⟨rfl, hb⟩; refine ⟨_, rfl, ?_⟩; have n0_ := Aside0.mk (blk_below (g := gb209) (o := .cells #[.int .i64 ((rd_T45 l0 x6_1).f0), .int .i64 ((rd_T45 l0 x6_1).f1), .string ((rd_T45 l0 x6_1).f2), .string ((rd_T45 l0 x6_1).f3), .slice A208_4 ((rd_T45 l0 x6_1).f4).length c208_4, .slice A208_5 ((rd_T45 l0 x6_1).f5).length c208_5, .slice A208_6 ((rd_T45 l0 x6_1).f6).length c208_6] 45 (0, 0)) (by (with_reducible repeat (first | refine blk_drewN ?_ _ | refine blk_drew ?_ | refine blk_alloc ?_ _)); refine blk_put (cs := #[.int .i64 ((rd_T45 l0 x6_1).f0), .int .i64 ((rd_T45 l0 x6_1).f1), .string ((rd_T45 l0 x6_1).f2), .string ((rd_T45 l0 x6_1).f3), .slice A208_4 ((rd_T45 l0 x6_1).f4).length c208_4, .slice A208_5 ((rd_T45 l0 x6_1).f5).length c208_5, .slice none 0 0]) ?_ 6 _ rfl; (with_reducible repeat (first | refine blk_drewN ?_ _ | refine blk_drew ?_ | refine blk_alloc ?_ _)); refine blk_put (cs := #[.int .i64 ((rd_T45 l0 x6_1).f0), .int .i64 ((rd_T45 l0 x6_1).f1), .string ((rd_T45 l0 x6_1).f2), .string ((rd_T45 l0 x6_1).f3), .slice A208_4 ((rd_T45 l0 x6_1).f4).length c208_4, .slice none 0 0, .slice none 0 0]) ?_ 5 _ rfl; (with_reducible repeat (first | refine blk_drewN ?_ _ | refine blk_drew ?_ | refine blk_alloc ?_ _)); refine blk_put (cs := #[.int .i64 ((rd_T45 l0 x6_1).f0), .int .i64 ((rd_T45 l0 x6_1).f1), .string ((rd_T45 l0 x6_1).f2), .string ((rd_T45 l0 x6_1).f3), .slice none 0 0, .slice none 0 0, .slice none 0 0]) ?_ 4 _ rfl; (with_reducible repeat (first | refine blk_drewN ?_ _ | refine blk_drew ?_ | refine blk_alloc ?_ _)); refine blk_put (cs := #[.int .i64 ((rd_T45 l0 x6_1).f0), .int .i64 ((rd_T45 l0 x6_1).f1), .string ((rd_T45 l0 x6_1).f2), .string (⟨#[]⟩ : ByteArray), .slice none 0 0, .slice none 0 0, .slice none 0 0]) ?_ 3 _ rfl; (with_reducible repeat (first | refine blk_drewN ?_ _ | refine blk_drew ?_ | refine blk_alloc ?_ _)); refine blk_put (cs := #[.int .i64 ((rd_T45 l0 x6_1).f0), .int .i64 ((rd_T45 l0 x6_1).f1), .string (⟨#[]⟩ : ByteArray), .string (⟨#[]⟩ : ByteArray), .slice none 0 0, .slice none 0 0, .slice none 0 0]) ?_ 2 _ rfl; (with_reducible repeat (first | refine blk_drewN ?_ _ | refine blk_drew ?_ | refine blk_alloc ?_ _)); refine blk_put (cs := #[.int .i64 ((rd_T45 l0 x6_1).f0), .int .i64 0, .string (⟨#[]⟩ : ByteArray), .string (⟨#[]⟩ : ByteArray), .slice none 0 0, .slice none 0 0, .slice none 0 0]) ?_ 1 _ rfl; (with_reducible repeat (first | refine blk_drewN ?_ _ | refine blk_drew ?_ | refine blk_alloc ?_ _)); refine blk_put (cs := #[.int .i64 0, .int .i64 0, .string (⟨#[]⟩ : ByteArray), .string (⟨#[]⟩ : ByteArray), .slice none 0 0, .slice none 0 0, .slice none 0 0]) ?_ 0 _ rfl; (with_reducible repeat (first | refine blk_drewN ?_ _ | refine blk_drew ?_ | refine blk_alloc ?_ _)); exact BK209.out) hb); have n1_ := Aside0.mk (below_step (by repeat (first | (with_reducible first | exact HB.out | apply below_alloc | apply pw_below_drewN | apply below_drew1 | refine below_set ?_ GE209.out) | exact HB.out)) hb); clear BK209; clear HB; have BK209 := n0_; have HB := n1_; clear n0_ n1_; (try clear hb); (try clear hb2); (try clear hk); (try clear hi)) | ((with_reducible refine gate_callee (f := 34) rfl ?_); refine goesL_ (some 24) rfl rfl Tryd.func34 (by kernel_rfl) rfl #[.int .i64 a1] rfl (by (try simp only [List.map_toArray, List.map_cons, List.map_nil]); first | done | rfl | (simp only [List.length_drop, List.length_take]; rfl)) ?_; (with_reducible refine (witheref6_in.calls k1 a1 t211 _ A6.out).mono ?_); rintro e w' ⟨rfl, ⟨nd, rfl⟩⟩; refine ⟨_, rfl, ?_⟩; have hcz91_0 : w90.cell? ⟨gb209, 0, none⟩ = some (.int .i64 ((rd_T45 l0 x6_1).f0)) := (blk_cell BK209.out 0).trans rfl; have hcz91_1 : w90.cell? ⟨gb209, 1, none⟩ = some (.int .i64 ((rd_T45 l0 x6_1).f1)) := (blk_cell BK209.out 1).trans rfl; have hcz91_2 : w90.cell? ⟨gb209, 2, none⟩ = some (.string ((rd_T45 l0 x6_1).f2)) := (blk_cell BK209.out 2).trans rfl; have hcz91_3 : w90.cell? ⟨gb209, 3, none⟩ = some (.string ((rd_T45 l0 x6_1).f3)) := (blk_cell BK209.out 3).trans rfl; have hcz91_4 : w90.cell? ⟨gb209, 4, none⟩ = some (.slice A208_4 ((rd_T45 l0 x6_1).f4).length c208_4) := (blk_cell BK209.out 4).trans rfl; have hcz91_5 : w90.cell? ⟨gb209, 5, none⟩ = some (.slice A208_5 ((rd_T45 l0 x6_1).f5).length c208_5) := (blk_cell BK209.out 5).trans rfl; have hcz91_6 : w90.cell? ⟨gb209, 6, none⟩ = some (.slice A208_6 ((rd_T45 l0 x6_1).f6).length c208_6) := (blk_cell BK209.out 6).trans rfl; have hfz91_0 := blk_frozen BK209.out 0; have hfz91_1 := blk_frozen BK209.out 1; have hfz91_2 := blk_frozen BK209.out 2; have hfz91_3 := blk_frozen BK209.out 3; have hfz91_4 := blk_frozen BK209.out 4; have hfz91_5 := blk_frozen BK209.out 5; have hfz91_6 := blk_frozen BK209.out 6) | ((with_reducible refine gate_callee (f := 15) rfl ?_); refine goesL_ (some 130) rfl rfl Tryd.func15 (by kernel_rfl) rfl #[.int .i64 ((rd_T45 l0 x6_1).f1)] rfl (by (try simp only [List.map_toArray, List.map_cons, List.map_nil]); first | done | rfl | (simp only [List.length_drop, List.length_take]; rfl)) ?_; (with_reducible refine (witheref6_Mode.calls ((rd_T45 l0 x6_1).f1) t217 _ A85.out).mono ?_); rintro e w' ⟨rfl, ⟨nd, rfl⟩⟩; refine ⟨_, rfl, ?_⟩))
               go_roundg k1
               case measure => have := HK1.out; omega
               case rel => exact ⟨((((x5_1 ++ t211) ++ (⟨#[102, 101, 110, 99, 101, 32]⟩ : ByteArray)) ++ t217) ++ (⟨#[59, 10]⟩ : ByteArray)), (wrap64 (x6_1 + 1)), (by first | rfl | (simp; done) | (simp [*]; done)), (by first | rfl | (simp; done) | (simp [*]; done)), H', ⟨by have := HK1.out; omega⟩, ⟨by repeat (first | (with_reducible first | exact HB.out | apply below_alloc | apply pw_below_drewN | apply below_drew1 | refine below_set ?_ GE209.out) | exact HB.out)⟩⟩
              ·rw [if_neg c87] at H
               exact absurd H (by simp)
             ·rw [if_neg c86] at H
              exact absurd H (by simp)
            ·rw [if_neg c84] at H
             exact absurd H (by simp)
           ·rw [if_neg c83] at H
            exact absurd H (by simp)
          ·rw [if_neg c82] at H
           have c82b0 : (((rd_T45 l0 x6_1).f0) == 6) = false := beq_eq_false_iff_ne.mpr c82
           have c82b1 : (((rd_T45 l0 x6_1).f0) != 6) = true := bne_iff_ne.mpr c82
           by_cases c92 : ((rd_T45 l0 x6_1).f0) = 7
           ·rw [if_pos c92] at H
            have c92b0 : (((rd_T45 l0 x6_1).f0) == 7) = true := beq_iff_eq.mpr c92
            have c92b1 : (((rd_T45 l0 x6_1).f0) != 7) = false := bne_eq_false_iff_eq.mpr c92
            clear c92
            by_cases c93 : x5_1.size + t211.size ≤ 9223372036854775807
            ·rw [if_pos c93] at H
             have c93b0 := eq_true c93
             have c93b1 : decide (x5_1.size + t211.size ≤ 9223372036854775807) = true := decide_eq_true c93
             try have c93b2 : (9223372036854775807 < x5_1.size + t211.size) = False := eq_false (Nat.not_lt.2 c93)
             by_cases c94 : (x5_1 ++ t211).size + 3 ≤ 9223372036854775807
             ·rw [if_pos c94] at H
              have c94b0 := eq_true c94
              have c94b1 : decide ((x5_1 ++ t211).size + 3 ≤ 9223372036854775807) = true := decide_eq_true c94
              try (have c94b1s := c94b1; simp only [ByteArray.size_append] at c94b1s)
              try have c94b2 : (9223372036854775807 < (x5_1 ++ t211).size + 3) = False := eq_false (Nat.not_lt.2 c94)
              try (have c94b2s := c94b2; simp only [ByteArray.size_append] at c94b2s)
              by_cases c95 : ((x5_1 ++ t211) ++ (⟨#[105, 102, 32]⟩ : ByteArray)).size + t210.size ≤ 9223372036854775807
              ·rw [if_pos c95] at H
               have c95b0 := eq_true c95
               have c95b1 : decide (((x5_1 ++ t211) ++ (⟨#[105, 102, 32]⟩ : ByteArray)).size + t210.size ≤ 9223372036854775807) = true := decide_eq_true c95
               try (have c95b1s := c95b1; simp only [ByteArray.size_append, show (⟨#[105, 102, 32]⟩ : ByteArray).size = 3 from rfl] at c95b1s)
               try have c95b2 : (9223372036854775807 < ((x5_1 ++ t211) ++ (⟨#[105, 102, 32]⟩ : ByteArray)).size + t210.size) = False := eq_false (Nat.not_lt.2 c95)
               try (have c95b2s := c95b2; simp only [ByteArray.size_append, show (⟨#[105, 102, 32]⟩ : ByteArray).size = 3 from rfl] at c95b2s)
               by_cases c96 : (((x5_1 ++ t211) ++ (⟨#[105, 102, 32]⟩ : ByteArray)) ++ t210).size + 3 ≤ 9223372036854775807
               ·rw [if_pos c96] at H
                have c96b0 := eq_true c96
                have c96b1 : decide ((((x5_1 ++ t211) ++ (⟨#[105, 102, 32]⟩ : ByteArray)) ++ t210).size + 3 ≤ 9223372036854775807) = true := decide_eq_true c96
                try (have c96b1s := c96b1; simp only [ByteArray.size_append, show (⟨#[105, 102, 32]⟩ : ByteArray).size = 3 from rfl] at c96b1s)
                try have c96b2 : (9223372036854775807 < (((x5_1 ++ t211) ++ (⟨#[105, 102, 32]⟩ : ByteArray)) ++ t210).size + 3) = False := eq_false (Nat.not_lt.2 c96)
                try (have c96b2s := c96b2; simp only [ByteArray.size_append, show (⟨#[105, 102, 32]⟩ : ByteArray).size = 3 from rfl] at c96b2s)
                replace H := Option.bind_eq_some_iff.mp H
                obtain ⟨t218, A970, H⟩ := H
                replace H : (if ((((x5_1 ++ t211) ++ (⟨#[105, 102, 32]⟩ : ByteArray)) ++ t210) ++ (⟨#[32, 123, 10]⟩ : ByteArray)).size + t218.size ≤ 9223372036854775807 then (if (((rd_T45 l0 x6_1).f6).length : Int) > 0 then (if (((((x5_1 ++ t211) ++ (⟨#[105, 102, 32]⟩ : ByteArray)) ++ t210) ++ (⟨#[32, 123, 10]⟩ : ByteArray)) ++ t218).size + t211.size ≤ 9223372036854775807 then (if ((((((x5_1 ++ t211) ++ (⟨#[105, 102, 32]⟩ : ByteArray)) ++ t210) ++ (⟨#[32, 123, 10]⟩ : ByteArray)) ++ t218) ++ t211).size + 9 ≤ 9223372036854775807 then ((witheref6_lines.f k1 ((rd_T45 l0 x6_1).f6) (wrap64 (a1 + 1))).bind fun t219 => (if (((((((x5_1 ++ t211) ++ (⟨#[105, 102, 32]⟩ : ByteArray)) ++ t210) ++ (⟨#[32, 123, 10]⟩ : ByteArray)) ++ t218) ++ t211) ++ (⟨#[125, 32, 101, 108, 115, 101, 32, 123, 10]⟩ : ByteArray)).size + t219.size ≤ 9223372036854775807 then (if ((((((((x5_1 ++ t211) ++ (⟨#[105, 102, 32]⟩ : ByteArray)) ++ t210) ++ (⟨#[32, 123, 10]⟩ : ByteArray)) ++ t218) ++ t211) ++ (⟨#[125, 32, 101, 108, 115, 101, 32, 123, 10]⟩ : ByteArray)) ++ t219).size + t211.size ≤ 9223372036854775807 then (if (((((((((x5_1 ++ t211) ++ (⟨#[105, 102, 32]⟩ : ByteArray)) ++ t210) ++ (⟨#[32, 123, 10]⟩ : ByteArray)) ++ t218) ++ t211) ++ (⟨#[125, 32, 101, 108, 115, 101, 32, 123, 10]⟩ : ByteArray)) ++ t219) ++ t211).size + 2 ≤ 9223372036854775807 then (witheref6_lines.l0 k1 l0 a1 ((((((((((x5_1 ++ t211) ++ (⟨#[105, 102, 32]⟩ : ByteArray)) ++ t210) ++ (⟨#[32, 123, 10]⟩ : ByteArray)) ++ t218) ++ t211) ++ (⟨#[125, 32, 101, 108, 115, 101, 32, 123, 10]⟩ : ByteArray)) ++ t219) ++ t211) ++ (⟨#[125, 10]⟩ : ByteArray)) (wrap64 (x6_1 + 1))) else (none)) else (none)) else (none))) else (none)) else (none)) else (if (((((x5_1 ++ t211) ++ (⟨#[105, 102, 32]⟩ : ByteArray)) ++ t210) ++ (⟨#[32, 123, 10]⟩ : ByteArray)) ++ t218).size + t211.size ≤ 9223372036854775807 then (if ((((((x5_1 ++ t211) ++ (⟨#[105, 102, 32]⟩ : ByteArray)) ++ t210) ++ (⟨#[32, 123, 10]⟩ : ByteArray)) ++ t218) ++ t211).size + 2 ≤ 9223372036854775807 then (witheref6_lines.l0 k1 l0 a1 (((((((x5_1 ++ t211) ++ (⟨#[105, 102, 32]⟩ : ByteArray)) ++ t210) ++ (⟨#[32, 123, 10]⟩ : ByteArray)) ++ t218) ++ t211) ++ (⟨#[125, 10]⟩ : ByteArray)) (wrap64 (x6_1 + 1))) else (none)) else (none))) else (none)) = some r := H
                have A97 := Aside0.mk A970
                clear A970
                by_cases c98 : ((((x5_1 ++ t211) ++ (⟨#[105, 102, 32]⟩ : ByteArray)) ++ t210) ++ (⟨#[32, 123, 10]⟩ : ByteArray)).size + t218.size ≤ 9223372036854775807
                ·rw [if_pos c98] at H
                 have c98b0 := eq_true c98
                 have c98b1 : decide (((((x5_1 ++ t211) ++ (⟨#[105, 102, 32]⟩ : ByteArray)) ++ t210) ++ (⟨#[32, 123, 10]⟩ : ByteArray)).size + t218.size ≤ 9223372036854775807) = true := decide_eq_true c98
                 try (have c98b1s := c98b1; simp only [ByteArray.size_append, show (⟨#[105, 102, 32]⟩ : ByteArray).size = 3 from rfl, show (⟨#[32, 123, 10]⟩ : ByteArray).size = 3 from rfl] at c98b1s)
                 try have c98b2 : (9223372036854775807 < ((((x5_1 ++ t211) ++ (⟨#[105, 102, 32]⟩ : ByteArray)) ++ t210) ++ (⟨#[32, 123, 10]⟩ : ByteArray)).size + t218.size) = False := eq_false (Nat.not_lt.2 c98)
                 try (have c98b2s := c98b2; simp only [ByteArray.size_append, show (⟨#[105, 102, 32]⟩ : ByteArray).size = 3 from rfl, show (⟨#[32, 123, 10]⟩ : ByteArray).size = 3 from rfl] at c98b2s)
                 by_cases c99 : (((rd_T45 l0 x6_1).f6).length : Int) > 0
                 ·rw [if_pos c99] at H
                  have c99b0 : decide (0 < (((rd_T45 l0 x6_1).f6).length : Int)) = true := decide_eq_true c99
                  have c99b1 : decide (0 < ((rd_T45 l0 x6_1).f6).length) = true := decide_eq_true (by omega)
                  clear c99
                  by_cases c100 : (((((x5_1 ++ t211) ++ (⟨#[105, 102, 32]⟩ : ByteArray)) ++ t210) ++ (⟨#[32, 123, 10]⟩ : ByteArray)) ++ t218).size + t211.size ≤ 9223372036854775807
                  ·rw [if_pos c100] at H
                   have c100b0 := eq_true c100
                   have c100b1 : decide ((((((x5_1 ++ t211) ++ (⟨#[105, 102, 32]⟩ : ByteArray)) ++ t210) ++ (⟨#[32, 123, 10]⟩ : ByteArray)) ++ t218).size + t211.size ≤ 9223372036854775807) = true := decide_eq_true c100
                   try (have c100b1s := c100b1; simp only [ByteArray.size_append, show (⟨#[105, 102, 32]⟩ : ByteArray).size = 3 from rfl, show (⟨#[32, 123, 10]⟩ : ByteArray).size = 3 from rfl] at c100b1s)
                   try have c100b2 : (9223372036854775807 < (((((x5_1 ++ t211) ++ (⟨#[105, 102, 32]⟩ : ByteArray)) ++ t210) ++ (⟨#[32, 123, 10]⟩ : ByteArray)) ++ t218).size + t211.size) = False := eq_false (Nat.not_lt.2 c100)
                   try (have c100b2s := c100b2; simp only [ByteArray.size_append, show (⟨#[105, 102, 32]⟩ : ByteArray).size = 3 from rfl, show (⟨#[32, 123, 10]⟩ : ByteArray).size = 3 from rfl] at c100b2s)
                   by_cases c101 : ((((((x5_1 ++ t211) ++ (⟨#[105, 102, 32]⟩ : ByteArray)) ++ t210) ++ (⟨#[32, 123, 10]⟩ : ByteArray)) ++ t218) ++ t211).size + 9 ≤ 9223372036854775807
                   ·rw [if_pos c101] at H
                    have c101b0 := eq_true c101
                    have c101b1 : decide (((((((x5_1 ++ t211) ++ (⟨#[105, 102, 32]⟩ : ByteArray)) ++ t210) ++ (⟨#[32, 123, 10]⟩ : ByteArray)) ++ t218) ++ t211).size + 9 ≤ 9223372036854775807) = true := decide_eq_true c101
                    try (have c101b1s := c101b1; simp only [ByteArray.size_append, show (⟨#[105, 102, 32]⟩ : ByteArray).size = 3 from rfl, show (⟨#[32, 123, 10]⟩ : ByteArray).size = 3 from rfl] at c101b1s)
                    try have c101b2 : (9223372036854775807 < ((((((x5_1 ++ t211) ++ (⟨#[105, 102, 32]⟩ : ByteArray)) ++ t210) ++ (⟨#[32, 123, 10]⟩ : ByteArray)) ++ t218) ++ t211).size + 9) = False := eq_false (Nat.not_lt.2 c101)
                    try (have c101b2s := c101b2; simp only [ByteArray.size_append, show (⟨#[105, 102, 32]⟩ : ByteArray).size = 3 from rfl, show (⟨#[32, 123, 10]⟩ : ByteArray).size = 3 from rfl] at c101b2s)
                    replace H := Option.bind_eq_some_iff.mp H
                    obtain ⟨t219, A1020, H⟩ := H
                    replace H : (if (((((((x5_1 ++ t211) ++ (⟨#[105, 102, 32]⟩ : ByteArray)) ++ t210) ++ (⟨#[32, 123, 10]⟩ : ByteArray)) ++ t218) ++ t211) ++ (⟨#[125, 32, 101, 108, 115, 101, 32, 123, 10]⟩ : ByteArray)).size + t219.size ≤ 9223372036854775807 then (if ((((((((x5_1 ++ t211) ++ (⟨#[105, 102, 32]⟩ : ByteArray)) ++ t210) ++ (⟨#[32, 123, 10]⟩ : ByteArray)) ++ t218) ++ t211) ++ (⟨#[125, 32, 101, 108, 115, 101, 32, 123, 10]⟩ : ByteArray)) ++ t219).size + t211.size ≤ 9223372036854775807 then (if (((((((((x5_1 ++ t211) ++ (⟨#[105, 102, 32]⟩ : ByteArray)) ++ t210) ++ (⟨#[32, 123, 10]⟩ : ByteArray)) ++ t218) ++ t211) ++ (⟨#[125, 32, 101, 108, 115, 101, 32, 123, 10]⟩ : ByteArray)) ++ t219) ++ t211).size + 2 ≤ 9223372036854775807 then (witheref6_lines.l0 k1 l0 a1 ((((((((((x5_1 ++ t211) ++ (⟨#[105, 102, 32]⟩ : ByteArray)) ++ t210) ++ (⟨#[32, 123, 10]⟩ : ByteArray)) ++ t218) ++ t211) ++ (⟨#[125, 32, 101, 108, 115, 101, 32, 123, 10]⟩ : ByteArray)) ++ t219) ++ t211) ++ (⟨#[125, 10]⟩ : ByteArray)) (wrap64 (x6_1 + 1))) else (none)) else (none)) else (none)) = some r := H
                    have A102 := Aside0.mk A1020
                    clear A1020
                    by_cases c103 : (((((((x5_1 ++ t211) ++ (⟨#[105, 102, 32]⟩ : ByteArray)) ++ t210) ++ (⟨#[32, 123, 10]⟩ : ByteArray)) ++ t218) ++ t211) ++ (⟨#[125, 32, 101, 108, 115, 101, 32, 123, 10]⟩ : ByteArray)).size + t219.size ≤ 9223372036854775807
                    ·rw [if_pos c103] at H
                     have c103b0 := eq_true c103
                     have c103b1 : decide ((((((((x5_1 ++ t211) ++ (⟨#[105, 102, 32]⟩ : ByteArray)) ++ t210) ++ (⟨#[32, 123, 10]⟩ : ByteArray)) ++ t218) ++ t211) ++ (⟨#[125, 32, 101, 108, 115, 101, 32, 123, 10]⟩ : ByteArray)).size + t219.size ≤ 9223372036854775807) = true := decide_eq_true c103
                     try (have c103b1s := c103b1; simp only [ByteArray.size_append, show (⟨#[105, 102, 32]⟩ : ByteArray).size = 3 from rfl, show (⟨#[125, 32, 101, 108, 115, 101, 32, 123, 10]⟩ : ByteArray).size = 9 from rfl, show (⟨#[32, 123, 10]⟩ : ByteArray).size = 3 from rfl] at c103b1s)
                     try have c103b2 : (9223372036854775807 < (((((((x5_1 ++ t211) ++ (⟨#[105, 102, 32]⟩ : ByteArray)) ++ t210) ++ (⟨#[32, 123, 10]⟩ : ByteArray)) ++ t218) ++ t211) ++ (⟨#[125, 32, 101, 108, 115, 101, 32, 123, 10]⟩ : ByteArray)).size + t219.size) = False := eq_false (Nat.not_lt.2 c103)
                     try (have c103b2s := c103b2; simp only [ByteArray.size_append, show (⟨#[105, 102, 32]⟩ : ByteArray).size = 3 from rfl, show (⟨#[125, 32, 101, 108, 115, 101, 32, 123, 10]⟩ : ByteArray).size = 9 from rfl, show (⟨#[32, 123, 10]⟩ : ByteArray).size = 3 from rfl] at c103b2s)
                     by_cases c104 : ((((((((x5_1 ++ t211) ++ (⟨#[105, 102, 32]⟩ : ByteArray)) ++ t210) ++ (⟨#[32, 123, 10]⟩ : ByteArray)) ++ t218) ++ t211) ++ (⟨#[125, 32, 101, 108, 115, 101, 32, 123, 10]⟩ : ByteArray)) ++ t219).size + t211.size ≤ 9223372036854775807
                     ·rw [if_pos c104] at H
                      have c104b0 := eq_true c104
                      have c104b1 : decide (((((((((x5_1 ++ t211) ++ (⟨#[105, 102, 32]⟩ : ByteArray)) ++ t210) ++ (⟨#[32, 123, 10]⟩ : ByteArray)) ++ t218) ++ t211) ++ (⟨#[125, 32, 101, 108, 115, 101, 32, 123, 10]⟩ : ByteArray)) ++ t219).size + t211.size ≤ 9223372036854775807) = true := decide_eq_true c104
                      try (have c104b1s := c104b1; simp only [ByteArray.size_append, show (⟨#[105, 102, 32]⟩ : ByteArray).size = 3 from rfl, show (⟨#[125, 32, 101, 108, 115, 101, 32, 123, 10]⟩ : ByteArray).size = 9 from rfl, show (⟨#[32, 123, 10]⟩ : ByteArray).size = 3 from rfl] at c104b1s)
                      try have c104b2 : (9223372036854775807 < ((((((((x5_1 ++ t211) ++ (⟨#[105, 102, 32]⟩ : ByteArray)) ++ t210) ++ (⟨#[32, 123, 10]⟩ : ByteArray)) ++ t218) ++ t211) ++ (⟨#[125, 32, 101, 108, 115, 101, 32, 123, 10]⟩ : ByteArray)) ++ t219).size + t211.size) = False := eq_false (Nat.not_lt.2 c104)
                      try (have c104b2s := c104b2; simp only [ByteArray.size_append, show (⟨#[105, 102, 32]⟩ : ByteArray).size = 3 from rfl, show (⟨#[125, 32, 101, 108, 115, 101, 32, 123, 10]⟩ : ByteArray).size = 9 from rfl, show (⟨#[32, 123, 10]⟩ : ByteArray).size = 3 from rfl] at c104b2s)
                      by_cases c105 : (((((((((x5_1 ++ t211) ++ (⟨#[105, 102, 32]⟩ : ByteArray)) ++ t210) ++ (⟨#[32, 123, 10]⟩ : ByteArray)) ++ t218) ++ t211) ++ (⟨#[125, 32, 101, 108, 115, 101, 32, 123, 10]⟩ : ByteArray)) ++ t219) ++ t211).size + 2 ≤ 9223372036854775807
                      ·rw [if_pos c105] at H
                       have c105b0 := eq_true c105
                       have c105b1 : decide ((((((((((x5_1 ++ t211) ++ (⟨#[105, 102, 32]⟩ : ByteArray)) ++ t210) ++ (⟨#[32, 123, 10]⟩ : ByteArray)) ++ t218) ++ t211) ++ (⟨#[125, 32, 101, 108, 115, 101, 32, 123, 10]⟩ : ByteArray)) ++ t219) ++ t211).size + 2 ≤ 9223372036854775807) = true := decide_eq_true c105
                       try (have c105b1s := c105b1; simp only [ByteArray.size_append, show (⟨#[105, 102, 32]⟩ : ByteArray).size = 3 from rfl, show (⟨#[125, 32, 101, 108, 115, 101, 32, 123, 10]⟩ : ByteArray).size = 9 from rfl, show (⟨#[32, 123, 10]⟩ : ByteArray).size = 3 from rfl] at c105b1s)
                       try have c105b2 : (9223372036854775807 < (((((((((x5_1 ++ t211) ++ (⟨#[105, 102, 32]⟩ : ByteArray)) ++ t210) ++ (⟨#[32, 123, 10]⟩ : ByteArray)) ++ t218) ++ t211) ++ (⟨#[125, 32, 101, 108, 115, 101, 32, 123, 10]⟩ : ByteArray)) ++ t219) ++ t211).size + 2) = False := eq_false (Nat.not_lt.2 c105)
                       try (have c105b2s := c105b2; simp only [ByteArray.size_append, show (⟨#[105, 102, 32]⟩ : ByteArray).size = 3 from rfl, show (⟨#[125, 32, 101, 108, 115, 101, 32, 123, 10]⟩ : ByteArray).size = 9 from rfl, show (⟨#[32, 123, 10]⟩ : ByteArray).size = 3 from rfl] at c105b2s)
                       have H' := Aside0.mk H
                       clear H
                       have p208 : 0 ≤ (x6_1 : Int) := of_decide_eq_true (by first | (with_reducible assumption) | assumption)
                       have q208 : x6_1 < (l0.length : Int) := of_decide_eq_true (by first | (with_reducible assumption) | assumption)
                       obtain ⟨ad208, A208_4, c208_4, A208_5, c208_5, A208_6, c208_6, e208, hx208_0, hx208_1, hx208_2, hx208_3, hx208_4, hx208_5, hx208_6, hl208_4, hi208_4, hl208_5, hi208_5, hl208_6, hi208_6⟩ := at_T45 HR0.out x6_1 p208 q208
                       cases e208
                       replace hx208_0 := (HB.out.cell (World.block_lt_of_cell? w _ hx208_0)).trans hx208_0
                       replace hx208_1 := (HB.out.cell (World.block_lt_of_cell? w _ hx208_1)).trans hx208_1
                       replace hx208_2 := (HB.out.cell (World.block_lt_of_cell? w _ hx208_2)).trans hx208_2
                       replace hx208_3 := (HB.out.cell (World.block_lt_of_cell? w _ hx208_3)).trans hx208_3
                       replace hx208_4 := (HB.out.cell (World.block_lt_of_cell? w _ hx208_4)).trans hx208_4
                       replace hx208_5 := (HB.out.cell (World.block_lt_of_cell? w _ hx208_5)).trans hx208_5
                       replace hx208_6 := (HB.out.cell (World.block_lt_of_cell? w _ hx208_6)).trans hx208_6
                       have HR208_4 := Aside0.mk hi208_4
                       have HC208_4 := Aside0.mk hl208_4
                       clear hi208_4 hl208_4
                       have HR208_5 := Aside0.mk hi208_5
                       have HC208_5 := Aside0.mk hl208_5
                       clear hi208_5 hl208_5
                       have HR208_6 := Aside0.mk hi208_6
                       have HC208_6 := Aside0.mk hl208_6
                       clear hi208_6 hl208_6
                       replace p208 := eq_true p208
                       replace q208 := eq_true q208
                       go_wp2_with (first | ((with_reducible refine gate_dst (N := 7) rfl ?_); refine box_event ?hg (N := 7) ?hd (cs := #[.int .i64 0, .int .i64 0, .string (⟨#[]⟩ : ByteArray), .string (⟨#[]⟩ : ByteArray), .slice none 0 0, .slice none 0 0, .slice none 0 0]) (t := 45) ?hr ?_; (case hd => rfl); (case hg => rfl); (case hr => first | (go_simp; done) | (go_simp; rfl)); intro gb209 hg w106 hbox hb; have n0_ := Aside0.mk (below_step (by repeat (first | (with_reducible first | exact HB.out | apply below_alloc | apply pw_below_drewN | apply below_drew1) | exact HB.out)) hb); have n1_ := Aside0.mk (hbox); have n2_ := Aside0.mk ((by rw [hg]; exact (below_size (by repeat (first | (with_reducible first | exact HB.out | apply below_alloc | apply pw_below_drewN | apply below_drew1) | exact HB.out))) : w.heap.size ≤ gb209)); have n3_ := Aside0.mk ((by rw [hg]; exact (below_size (by repeat (first | (with_reducible first | exact HB.out | apply below_alloc | apply pw_below_drewN | apply below_drew1) | exact HB.out))) : w.heap.size ≤ gb209)); clear HB; have HB := n0_; have BK209 := n1_; have GW209 := n2_; have GE209 := n3_; clear n0_ n1_ n2_ n3_; clear hb hbox hg; have hcz107_0 : w106.cell? ⟨gb209, 0, none⟩ = some (.int .i64 0) := (blk_cell BK209.out 0).trans rfl; have hcz107_1 : w106.cell? ⟨gb209, 1, none⟩ = some (.int .i64 0) := (blk_cell BK209.out 1).trans rfl; have hcz107_2 : w106.cell? ⟨gb209, 2, none⟩ = some (.string (⟨#[]⟩ : ByteArray)) := (blk_cell BK209.out 2).trans rfl; have hcz107_3 : w106.cell? ⟨gb209, 3, none⟩ = some (.string (⟨#[]⟩ : ByteArray)) := (blk_cell BK209.out 3).trans rfl; have hcz107_4 : w106.cell? ⟨gb209, 4, none⟩ = some (.slice none 0 0) := (blk_cell BK209.out 4).trans rfl; have hcz107_5 : w106.cell? ⟨gb209, 5, none⟩ = some (.slice none 0 0) := (blk_cell BK209.out 5).trans rfl; have hcz107_6 : w106.cell? ⟨gb209, 6, none⟩ = some (.slice none 0 0) := (blk_cell BK209.out 6).trans rfl; have hfz107_0 := blk_frozen BK209.out 0; have hfz107_1 := blk_frozen BK209.out 1; have hfz107_2 := blk_frozen BK209.out 2; have hfz107_3 := blk_frozen BK209.out 3; have hfz107_4 := blk_frozen BK209.out 4; have hfz107_5 := blk_frozen BK209.out 5; have hfz107_6 := blk_frozen BK209.out 6) | ((with_reducible refine gate_callee (f := 25) rfl ?_); refine goesL_ (some 22) rfl rfl Tryd.func25 (by kernel_rfl) rfl #[.slice A208_4 ((rd_T45 l0 x6_1).f4).length c208_4, .int .i64 0] rfl (by (try simp only [List.map_toArray, List.map_cons, List.map_nil]); first | done | rfl | (simp only [List.length_drop, List.length_take]; rfl)) ?_; (with_reducible refine (witheref6_kid.calls k1 _ _ ((rd_T45 l0 x6_1).f4) 0 t210 _ ?side1 ?side2 A5.out).mono ?_); (case side1 => exact Kd.C_below HR208_4.out (by repeat (first | (with_reducible first | exact HB.out | apply below_alloc | apply pw_below_drewN | apply below_drew1 | refine below_set ?_ GE209.out) | exact HB.out))); (case side2 => exact HC208_4.out); rintro e w108 ⟨rfl, hb⟩; refine ⟨_, rfl, ?_⟩; have n0_ := Aside0.mk (blk_below (g := gb209) (o := .cells #[.int .i64 ((rd_T45 l0 x6_1).f0), .int .i64 ((rd_T45 l0 x6_1).f1), .string ((rd_T45 l0 x6_1).f2), .string ((rd_T45 l0 x6_1).f3), .slice A208_4 ((rd_T45 l0 x6_1).f4).length c208_4, .slice A208_5 ((rd_T45 l0 x6_1).f5).length c208_5, .slice A208_6 ((rd_T45 l0 x6_1).f6).length c208_6] 45 (0, 0)) (by (with_reducible repeat (first | refine blk_drewN ?_ _ | refine blk_drew ?_ | refine blk_alloc ?_ _)); refine blk_put (cs := #[.int .i64 ((rd_T45 l0 x6_1).f0), .int .i64 ((rd_T45 l0 x6_1).f1), .string ((rd_T45 l0 x6_1).f2), .string ((rd_T45 l0 x6_1).f3), .slice A208_4 ((rd_T45 l0 x6_1).f4).length c208_4, .slice A208_5 ((rd_T45 l0 x6_1).f5).length c208_5, .slice none 0 0]) ?_ 6 _ rfl; (with_reducible repeat (first | refine blk_drewN ?_ _ | refine blk_drew ?_ | refine blk_alloc ?_ _)); refine blk_put (cs := #[.int .i64 ((rd_T45 l0 x6_1).f0), .int .i64 ((rd_T45 l0 x6_1).f1), .string ((rd_T45 l0 x6_1).f2), .string ((rd_T45 l0 x6_1).f3), .slice A208_4 ((rd_T45 l0 x6_1).f4).length c208_4, .slice none 0 0, .slice none 0 0]) ?_ 5 _ rfl; (with_reducible repeat (first | refine blk_drewN ?_ _ | refine blk_drew ?_ | refine blk_alloc ?_ _)); refine blk_put (cs := #[.int .i64 ((rd_T45 l0 x6_1).f0), .int .i64 ((rd_T45 l0 x6_1).f1), .string ((rd_T45 l0 x6_1).f2), .string ((rd_T45 l0 x6_1).f3), .slice none 0 0, .slice none 0 0, .slice none 0 0]) ?_ 4 _ rfl; (with_reducible repeat (first | refine blk_drewN ?_ _ | refine blk_drew ?_ | refine blk_alloc ?_ _)); refine blk_put (cs := #[.int .i64 ((rd_T45 l0 x6_1).f0), .int .i64 ((rd_T45 l0 x6_1).f1), .string ((rd_T45 l0 x6_1).f2), .string (⟨#[]⟩ : ByteArray), .slice none 0 0, .slice none 0 0, .slice none 0 0]) ?_ 3 _ rfl; (with_reducible repeat (first | refine blk_drewN ?_ _ | refine blk_drew ?_ | refine blk_alloc ?_ _)); refine blk_put (cs := #[.int .i64 ((rd_T45 l0 x6_1).f0), .int .i64 ((rd_T45 l0 x6_1).f1), .string (⟨#[]⟩ : ByteArray), .string (⟨#[]⟩ : ByteArray), .slice none 0 0, .slice none 0 0, .slice none 0 0]) ?_ 2 _ rfl; (with_reducible repeat (first | refine blk_drewN ?_ _ | refine blk_drew ?_ | refine blk_alloc ?_ _)); refine blk_put (cs := #[.int .i64 ((rd_T45 l0 x6_1).f0), .int .i64 0, .string (⟨#[]⟩ : ByteArray), .string (⟨#[]⟩ : ByteArray), .slice none 0 0, .slice none 0 0, .slice none 0 0]) ?_ 1 _ rfl; (with_reducible repeat (first | refine blk_drewN ?_ _ | refine blk_drew ?_ | refine blk_alloc ?_ _)); refine blk_put (cs := #[.int .i64 0, .int .i64 0, .string (⟨#[]⟩ : ByteArray), .string (⟨#[]⟩ : ByteArray), .slice none 0 0, .slice none 0 0, .slice none 0 0]) ?_ 0 _ rfl; (with_reducible repeat (first | refine blk_drewN ?_ _ | refine blk_drew ?_ | refine blk_alloc ?_ _)); exact BK209.out) hb); have n1_ := Aside0.mk (below_step (by repeat (first | (with_reducible first | exact HB.out | apply below_alloc | apply pw_below_drewN | apply below_drew1 | refine below_set ?_ GE209.out) | exact HB.out)) hb); clear BK209; clear HB; have BK209 := n0_; have HB := n1_; clear n0_ n1_; (try clear hb); (try clear hb2); (try clear hk); (try clear hi)) | ((with_reducible refine gate_callee (f := 34) rfl ?_); refine goesL_ (some 24) rfl rfl Tryd.func34 (by kernel_rfl) rfl #[.int .i64 a1] rfl (by (try simp only [List.map_toArray, List.map_cons, List.map_nil]); first | done | rfl | (simp only [List.length_drop, List.length_take]; rfl)) ?_; (with_reducible refine (witheref6_in.calls k1 a1 t211 _ A6.out).mono ?_); rintro e w' ⟨rfl, ⟨nd, rfl⟩⟩; refine ⟨_, rfl, ?_⟩; have hcz109_0 : w108.cell? ⟨gb209, 0, none⟩ = some (.int .i64 ((rd_T45 l0 x6_1).f0)) := (blk_cell BK209.out 0).trans rfl; have hcz109_1 : w108.cell? ⟨gb209, 1, none⟩ = some (.int .i64 ((rd_T45 l0 x6_1).f1)) := (blk_cell BK209.out 1).trans rfl; have hcz109_2 : w108.cell? ⟨gb209, 2, none⟩ = some (.string ((rd_T45 l0 x6_1).f2)) := (blk_cell BK209.out 2).trans rfl; have hcz109_3 : w108.cell? ⟨gb209, 3, none⟩ = some (.string ((rd_T45 l0 x6_1).f3)) := (blk_cell BK209.out 3).trans rfl; have hcz109_4 : w108.cell? ⟨gb209, 4, none⟩ = some (.slice A208_4 ((rd_T45 l0 x6_1).f4).length c208_4) := (blk_cell BK209.out 4).trans rfl; have hcz109_5 : w108.cell? ⟨gb209, 5, none⟩ = some (.slice A208_5 ((rd_T45 l0 x6_1).f5).length c208_5) := (blk_cell BK209.out 5).trans rfl; have hcz109_6 : w108.cell? ⟨gb209, 6, none⟩ = some (.slice A208_6 ((rd_T45 l0 x6_1).f6).length c208_6) := (blk_cell BK209.out 6).trans rfl; have hfz109_0 := blk_frozen BK209.out 0; have hfz109_1 := blk_frozen BK209.out 1; have hfz109_2 := blk_frozen BK209.out 2; have hfz109_3 := blk_frozen BK209.out 3; have hfz109_4 := blk_frozen BK209.out 4; have hfz109_5 := blk_frozen BK209.out 5; have hfz109_6 := blk_frozen BK209.out 6) | ((with_reducible refine gate_callee (f := 22) rfl ?_); refine goesL_ (some 146) rfl rfl Tryd.func22 (by kernel_rfl) rfl #[.slice A208_5 ((rd_T45 l0 x6_1).f5).length c208_5, .int .i64 (wrap64 (a1 + 1))] rfl (by (try simp only [List.map_toArray, List.map_cons, List.map_nil]); first | done | rfl | (simp only [List.length_drop, List.length_take]; rfl)) ?_; (with_reducible refine (ih k1 (by have := HK1.out; omega) _ _ ((rd_T45 l0 x6_1).f5) (wrap64 (a1 + 1)) t218 _ ?side1 ?side2 A97.out).mono ?_); (case side1 => repeat (first | exact (Kd.C_below HR208_5.out (by repeat (first | (with_reducible first | exact HB.out | apply below_alloc | apply pw_below_drewN | apply below_drew1 | refine below_set ?_ GE209.out) | exact HB.out))) | (with_reducible refine Kd.C_alloc ?_ _) | (with_reducible refine Kd.C_drewN ?_ _) | (with_reducible refine Kd.C_drew ?_))); (case side2 => exact HC208_5.out); rintro e w110 ⟨rfl, hb⟩; refine ⟨_, rfl, ?_⟩; have n0_ := Aside0.mk (blk_below (g := gb209) (o := .cells #[.int .i64 ((rd_T45 l0 x6_1).f0), .int .i64 ((rd_T45 l0 x6_1).f1), .string ((rd_T45 l0 x6_1).f2), .string ((rd_T45 l0 x6_1).f3), .slice A208_4 ((rd_T45 l0 x6_1).f4).length c208_4, .slice A208_5 ((rd_T45 l0 x6_1).f5).length c208_5, .slice A208_6 ((rd_T45 l0 x6_1).f6).length c208_6] 45 (0, 0)) (by (with_reducible repeat (first | refine blk_drewN ?_ _ | refine blk_drew ?_ | refine blk_alloc ?_ _)); exact BK209.out) hb); have n1_ := Aside0.mk (below_step (by repeat (first | (with_reducible first | exact HB.out | apply below_alloc | apply pw_below_drewN | apply below_drew1 | refine below_set ?_ GE209.out) | exact HB.out)) hb); clear BK209; clear HB; have BK209 := n0_; have HB := n1_; clear n0_ n1_; (try clear hb); (try clear hb2); (try clear hk); (try clear hi); have hcz111_0 : w110.cell? ⟨gb209, 0, none⟩ = some (.int .i64 ((rd_T45 l0 x6_1).f0)) := (blk_cell BK209.out 0).trans rfl; have hcz111_1 : w110.cell? ⟨gb209, 1, none⟩ = some (.int .i64 ((rd_T45 l0 x6_1).f1)) := (blk_cell BK209.out 1).trans rfl; have hcz111_2 : w110.cell? ⟨gb209, 2, none⟩ = some (.string ((rd_T45 l0 x6_1).f2)) := (blk_cell BK209.out 2).trans rfl; have hcz111_3 : w110.cell? ⟨gb209, 3, none⟩ = some (.string ((rd_T45 l0 x6_1).f3)) := (blk_cell BK209.out 3).trans rfl; have hcz111_4 : w110.cell? ⟨gb209, 4, none⟩ = some (.slice A208_4 ((rd_T45 l0 x6_1).f4).length c208_4) := (blk_cell BK209.out 4).trans rfl; have hcz111_5 : w110.cell? ⟨gb209, 5, none⟩ = some (.slice A208_5 ((rd_T45 l0 x6_1).f5).length c208_5) := (blk_cell BK209.out 5).trans rfl; have hcz111_6 : w110.cell? ⟨gb209, 6, none⟩ = some (.slice A208_6 ((rd_T45 l0 x6_1).f6).length c208_6) := (blk_cell BK209.out 6).trans rfl; have hfz111_0 := blk_frozen BK209.out 0; have hfz111_1 := blk_frozen BK209.out 1; have hfz111_2 := blk_frozen BK209.out 2; have hfz111_3 := blk_frozen BK209.out 3; have hfz111_4 := blk_frozen BK209.out 4; have hfz111_5 := blk_frozen BK209.out 5; have hfz111_6 := blk_frozen BK209.out 6) | ((with_reducible refine gate_callee (f := 22) rfl ?_); refine goesL_ (some 160) rfl rfl Tryd.func22 (by kernel_rfl) rfl #[.slice A208_6 ((rd_T45 l0 x6_1).f6).length c208_6, .int .i64 (wrap64 (a1 + 1))] rfl (by (try simp only [List.map_toArray, List.map_cons, List.map_nil]); first | done | rfl | (simp only [List.length_drop, List.length_take]; rfl)) ?_; (with_reducible refine (ih k1 (by have := HK1.out; omega) _ _ ((rd_T45 l0 x6_1).f6) (wrap64 (a1 + 1)) t219 _ ?side1 ?side2 A102.out).mono ?_); (case side1 => repeat (first | exact (Kd.C_below HR208_6.out HB.out) | (with_reducible refine Kd.C_alloc ?_ _) | (with_reducible refine Kd.C_drewN ?_ _) | (with_reducible refine Kd.C_drew ?_))); (case side2 => exact HC208_6.out); rintro e w112 ⟨rfl, hb⟩; refine ⟨_, rfl, ?_⟩; have n0_ := Aside0.mk (blk_below (g := gb209) (o := .cells #[.int .i64 ((rd_T45 l0 x6_1).f0), .int .i64 ((rd_T45 l0 x6_1).f1), .string ((rd_T45 l0 x6_1).f2), .string ((rd_T45 l0 x6_1).f3), .slice A208_4 ((rd_T45 l0 x6_1).f4).length c208_4, .slice A208_5 ((rd_T45 l0 x6_1).f5).length c208_5, .slice A208_6 ((rd_T45 l0 x6_1).f6).length c208_6] 45 (0, 0)) (by (with_reducible repeat (first | refine blk_drewN ?_ _ | refine blk_drew ?_ | refine blk_alloc ?_ _)); exact BK209.out) hb); have n1_ := Aside0.mk (below_step (by repeat (first | (with_reducible first | exact HB.out | apply below_alloc | apply pw_below_drewN | apply below_drew1 | refine below_set ?_ GE209.out) | exact HB.out)) hb); clear BK209; clear HB; have BK209 := n0_; have HB := n1_; clear n0_ n1_; (try clear hb); (try clear hb2); (try clear hk); (try clear hi)))
                       go_roundg k1
                       case measure => have := HK1.out; omega
                       case rel => exact ⟨((((((((((x5_1 ++ t211) ++ (⟨#[105, 102, 32]⟩ : ByteArray)) ++ t210) ++ (⟨#[32, 123, 10]⟩ : ByteArray)) ++ t218) ++ t211) ++ (⟨#[125, 32, 101, 108, 115, 101, 32, 123, 10]⟩ : ByteArray)) ++ t219) ++ t211) ++ (⟨#[125, 10]⟩ : ByteArray)), (wrap64 (x6_1 + 1)), (by first | rfl | (simp; done) | (simp [*]; done)), (by first | rfl | (simp; done) | (simp [*]; done)), H', ⟨by have := HK1.out; omega⟩, ⟨by repeat (first | (with_reducible first | exact HB.out | apply below_alloc | apply pw_below_drewN | apply below_drew1 | refine below_set ?_ GE209.out) | exact HB.out)⟩⟩
                      ·rw [if_neg c105] at H
                       exact absurd H (by simp)
                     ·rw [if_neg c104] at H
                      exact absurd H (by simp)
                    ·rw [if_neg c103] at H
                     exact absurd H (by simp)
                   ·rw [if_neg c101] at H
                    exact absurd H (by simp)
                  ·rw [if_neg c100] at H
                   exact absurd H (by simp)
                 ·rw [if_neg c99] at H
                  have c99b0 : decide (0 < (((rd_T45 l0 x6_1).f6).length : Int)) = false := decide_eq_false c99
                  have c99b1 : decide (0 < ((rd_T45 l0 x6_1).f6).length) = false := decide_eq_false (by omega)
                  clear c99
                  by_cases c113 : (((((x5_1 ++ t211) ++ (⟨#[105, 102, 32]⟩ : ByteArray)) ++ t210) ++ (⟨#[32, 123, 10]⟩ : ByteArray)) ++ t218).size + t211.size ≤ 9223372036854775807
                  ·rw [if_pos c113] at H
                   have c113b0 := eq_true c113
                   have c113b1 : decide ((((((x5_1 ++ t211) ++ (⟨#[105, 102, 32]⟩ : ByteArray)) ++ t210) ++ (⟨#[32, 123, 10]⟩ : ByteArray)) ++ t218).size + t211.size ≤ 9223372036854775807) = true := decide_eq_true c113
                   try (have c113b1s := c113b1; simp only [ByteArray.size_append, show (⟨#[105, 102, 32]⟩ : ByteArray).size = 3 from rfl, show (⟨#[32, 123, 10]⟩ : ByteArray).size = 3 from rfl] at c113b1s)
                   try have c113b2 : (9223372036854775807 < (((((x5_1 ++ t211) ++ (⟨#[105, 102, 32]⟩ : ByteArray)) ++ t210) ++ (⟨#[32, 123, 10]⟩ : ByteArray)) ++ t218).size + t211.size) = False := eq_false (Nat.not_lt.2 c113)
                   try (have c113b2s := c113b2; simp only [ByteArray.size_append, show (⟨#[105, 102, 32]⟩ : ByteArray).size = 3 from rfl, show (⟨#[32, 123, 10]⟩ : ByteArray).size = 3 from rfl] at c113b2s)
                   by_cases c114 : ((((((x5_1 ++ t211) ++ (⟨#[105, 102, 32]⟩ : ByteArray)) ++ t210) ++ (⟨#[32, 123, 10]⟩ : ByteArray)) ++ t218) ++ t211).size + 2 ≤ 9223372036854775807
                   ·rw [if_pos c114] at H
                    have c114b0 := eq_true c114
                    have c114b1 : decide (((((((x5_1 ++ t211) ++ (⟨#[105, 102, 32]⟩ : ByteArray)) ++ t210) ++ (⟨#[32, 123, 10]⟩ : ByteArray)) ++ t218) ++ t211).size + 2 ≤ 9223372036854775807) = true := decide_eq_true c114
                    try (have c114b1s := c114b1; simp only [ByteArray.size_append, show (⟨#[105, 102, 32]⟩ : ByteArray).size = 3 from rfl, show (⟨#[32, 123, 10]⟩ : ByteArray).size = 3 from rfl] at c114b1s)
                    try have c114b2 : (9223372036854775807 < ((((((x5_1 ++ t211) ++ (⟨#[105, 102, 32]⟩ : ByteArray)) ++ t210) ++ (⟨#[32, 123, 10]⟩ : ByteArray)) ++ t218) ++ t211).size + 2) = False := eq_false (Nat.not_lt.2 c114)
                    try (have c114b2s := c114b2; simp only [ByteArray.size_append, show (⟨#[105, 102, 32]⟩ : ByteArray).size = 3 from rfl, show (⟨#[32, 123, 10]⟩ : ByteArray).size = 3 from rfl] at c114b2s)
                    have H' := Aside0.mk H
                    clear H
                    have p208 : 0 ≤ (x6_1 : Int) := of_decide_eq_true (by first | (with_reducible assumption) | assumption)
                    have q208 : x6_1 < (l0.length : Int) := of_decide_eq_true (by first | (with_reducible assumption) | assumption)
                    obtain ⟨ad208, A208_4, c208_4, A208_5, c208_5, A208_6, c208_6, e208, hx208_0, hx208_1, hx208_2, hx208_3, hx208_4, hx208_5, hx208_6, hl208_4, hi208_4, hl208_5, hi208_5, hl208_6, hi208_6⟩ := at_T45 HR0.out x6_1 p208 q208
                    cases e208
                    replace hx208_0 := (HB.out.cell (World.block_lt_of_cell? w _ hx208_0)).trans hx208_0
                    replace hx208_1 := (HB.out.cell (World.block_lt_of_cell? w _ hx208_1)).trans hx208_1
                    replace hx208_2 := (HB.out.cell (World.block_lt_of_cell? w _ hx208_2)).trans hx208_2
                    replace hx208_3 := (HB.out.cell (World.block_lt_of_cell? w _ hx208_3)).trans hx208_3
                    replace hx208_4 := (HB.out.cell (World.block_lt_of_cell? w _ hx208_4)).trans hx208_4
                    replace hx208_5 := (HB.out.cell (World.block_lt_of_cell? w _ hx208_5)).trans hx208_5
                    replace hx208_6 := (HB.out.cell (World.block_lt_of_cell? w _ hx208_6)).trans hx208_6
                    have HR208_4 := Aside0.mk hi208_4
                    have HC208_4 := Aside0.mk hl208_4
                    clear hi208_4 hl208_4
                    have HR208_5 := Aside0.mk hi208_5
                    have HC208_5 := Aside0.mk hl208_5
                    clear hi208_5 hl208_5
                    have HR208_6 := Aside0.mk hi208_6
                    have HC208_6 := Aside0.mk hl208_6
                    clear hi208_6 hl208_6
                    replace p208 := eq_true p208
                    replace q208 := eq_true q208
                    go_wp2_with (first | ((with_reducible refine gate_dst (N := 7) rfl ?_); refine box_event ?hg (N := 7) ?hd (cs := #[.int .i64 0, .int .i64 0, .string (⟨#[]⟩ : ByteArray), .string (⟨#[]⟩ : ByteArray), .slice none 0 0, .slice none 0 0, .slice none 0 0]) (t := 45) ?hr ?_; (case hd => rfl); (case hg => rfl); (case hr => first | (go_simp; done) | (go_simp; rfl)); intro gb209 hg w115 hbox hb; have n0_ := Aside0.mk (below_step (by repeat (first | (with_reducible first | exact HB.out | apply below_alloc | apply pw_below_drewN | apply below_drew1) | exact HB.out)) hb); have n1_ := Aside0.mk (hbox); have n2_ := Aside0.mk ((by rw [hg]; exact (below_size (by repeat (first | (with_reducible first | exact HB.out | apply below_alloc | apply pw_below_drewN | apply below_drew1) | exact HB.out))) : w.heap.size ≤ gb209)); have n3_ := Aside0.mk ((by rw [hg]; exact (below_size (by repeat (first | (with_reducible first | exact HB.out | apply below_alloc | apply pw_below_drewN | apply below_drew1) | exact HB.out))) : w.heap.size ≤ gb209)); clear HB; have HB := n0_; have BK209 := n1_; have GW209 := n2_; have GE209 := n3_; clear n0_ n1_ n2_ n3_; clear hb hbox hg; have hcz116_0 : w115.cell? ⟨gb209, 0, none⟩ = some (.int .i64 0) := (blk_cell BK209.out 0).trans rfl; have hcz116_1 : w115.cell? ⟨gb209, 1, none⟩ = some (.int .i64 0) := (blk_cell BK209.out 1).trans rfl; have hcz116_2 : w115.cell? ⟨gb209, 2, none⟩ = some (.string (⟨#[]⟩ : ByteArray)) := (blk_cell BK209.out 2).trans rfl; have hcz116_3 : w115.cell? ⟨gb209, 3, none⟩ = some (.string (⟨#[]⟩ : ByteArray)) := (blk_cell BK209.out 3).trans rfl; have hcz116_4 : w115.cell? ⟨gb209, 4, none⟩ = some (.slice none 0 0) := (blk_cell BK209.out 4).trans rfl; have hcz116_5 : w115.cell? ⟨gb209, 5, none⟩ = some (.slice none 0 0) := (blk_cell BK209.out 5).trans rfl; have hcz116_6 : w115.cell? ⟨gb209, 6, none⟩ = some (.slice none 0 0) := (blk_cell BK209.out 6).trans rfl; have hfz116_0 := blk_frozen BK209.out 0; have hfz116_1 := blk_frozen BK209.out 1; have hfz116_2 := blk_frozen BK209.out 2; have hfz116_3 := blk_frozen BK209.out 3; have hfz116_4 := blk_frozen BK209.out 4; have hfz116_5 := blk_frozen BK209.out 5; have hfz116_6 := blk_frozen BK209.out 6) | ((with_reducible refine gate_callee (f := 25) rfl ?_); refine goesL_ (some 22) rfl rfl Tryd.func25 (by kernel_rfl) rfl #[.slice A208_4 ((rd_T45 l0 x6_1).f4).length c208_4, .int .i64 0] rfl (by (try simp only [List.map_toArray, List.map_cons, List.map_nil]); first | done | rfl | (simp only [List.length_drop, List.length_take]; rfl)) ?_; (with_reducible refine (witheref6_kid.calls k1 _ _ ((rd_T45 l0 x6_1).f4) 0 t210 _ ?side1 ?side2 A5.out).mono ?_); (case side1 => exact Kd.C_below HR208_4.out (by repeat (first | (with_reducible first | exact HB.out | apply below_alloc | apply pw_below_drewN | apply below_drew1 | refine below_set ?_ GE209.out) | exact HB.out))); (case side2 => exact HC208_4.out); rintro e w117 ⟨rfl, hb⟩; refine ⟨_, rfl, ?_⟩; have n0_ := Aside0.mk (blk_below (g := gb209) (o := .cells #[.int .i64 ((rd_T45 l0 x6_1).f0), .int .i64 ((rd_T45 l0 x6_1).f1), .string ((rd_T45 l0 x6_1).f2), .string ((rd_T45 l0 x6_1).f3), .slice A208_4 ((rd_T45 l0 x6_1).f4).length c208_4, .slice A208_5 ((rd_T45 l0 x6_1).f5).length c208_5, .slice A208_6 ((rd_T45 l0 x6_1).f6).length c208_6] 45 (0, 0)) (by (with_reducible repeat (first | refine blk_drewN ?_ _ | refine blk_drew ?_ | refine blk_alloc ?_ _)); refine blk_put (cs := #[.int .i64 ((rd_T45 l0 x6_1).f0), .int .i64 ((rd_T45 l0 x6_1).f1), .string ((rd_T45 l0 x6_1).f2), .string ((rd_T45 l0 x6_1).f3), .slice A208_4 ((rd_T45 l0 x6_1).f4).length c208_4, .slice A208_5 ((rd_T45 l0 x6_1).f5).length c208_5, .slice none 0 0]) ?_ 6 _ rfl; (with_reducible repeat (first | refine blk_drewN ?_ _ | refine blk_drew ?_ | refine blk_alloc ?_ _)); refine blk_put (cs := #[.int .i64 ((rd_T45 l0 x6_1).f0), .int .i64 ((rd_T45 l0 x6_1).f1), .string ((rd_T45 l0 x6_1).f2), .string ((rd_T45 l0 x6_1).f3), .slice A208_4 ((rd_T45 l0 x6_1).f4).length c208_4, .slice none 0 0, .slice none 0 0]) ?_ 5 _ rfl; (with_reducible repeat (first | refine blk_drewN ?_ _ | refine blk_drew ?_ | refine blk_alloc ?_ _)); refine blk_put (cs := #[.int .i64 ((rd_T45 l0 x6_1).f0), .int .i64 ((rd_T45 l0 x6_1).f1), .string ((rd_T45 l0 x6_1).f2), .string ((rd_T45 l0 x6_1).f3), .slice none 0 0, .slice none 0 0, .slice none 0 0]) ?_ 4 _ rfl; (with_reducible repeat (first | refine blk_drewN ?_ _ | refine blk_drew ?_ | refine blk_alloc ?_ _)); refine blk_put (cs := #[.int .i64 ((rd_T45 l0 x6_1).f0), .int .i64 ((rd_T45 l0 x6_1).f1), .string ((rd_T45 l0 x6_1).f2), .string (⟨#[]⟩ : ByteArray), .slice none 0 0, .slice none 0 0, .slice none 0 0]) ?_ 3 _ rfl; (with_reducible repeat (first | refine blk_drewN ?_ _ | refine blk_drew ?_ | refine blk_alloc ?_ _)); refine blk_put (cs := #[.int .i64 ((rd_T45 l0 x6_1).f0), .int .i64 ((rd_T45 l0 x6_1).f1), .string (⟨#[]⟩ : ByteArray), .string (⟨#[]⟩ : ByteArray), .slice none 0 0, .slice none 0 0, .slice none 0 0]) ?_ 2 _ rfl; (with_reducible repeat (first | refine blk_drewN ?_ _ | refine blk_drew ?_ | refine blk_alloc ?_ _)); refine blk_put (cs := #[.int .i64 ((rd_T45 l0 x6_1).f0), .int .i64 0, .string (⟨#[]⟩ : ByteArray), .string (⟨#[]⟩ : ByteArray), .slice none 0 0, .slice none 0 0, .slice none 0 0]) ?_ 1 _ rfl; (with_reducible repeat (first | refine blk_drewN ?_ _ | refine blk_drew ?_ | refine blk_alloc ?_ _)); refine blk_put (cs := #[.int .i64 0, .int .i64 0, .string (⟨#[]⟩ : ByteArray), .string (⟨#[]⟩ : ByteArray), .slice none 0 0, .slice none 0 0, .slice none 0 0]) ?_ 0 _ rfl; (with_reducible repeat (first | refine blk_drewN ?_ _ | refine blk_drew ?_ | refine blk_alloc ?_ _)); exact BK209.out) hb); have n1_ := Aside0.mk (below_step (by repeat (first | (with_reducible first | exact HB.out | apply below_alloc | apply pw_below_drewN | apply below_drew1 | refine below_set ?_ GE209.out) | exact HB.out)) hb); clear BK209; clear HB; have BK209 := n0_; have HB := n1_; clear n0_ n1_; (try clear hb); (try clear hb2); (try clear hk); (try clear hi)) | ((with_reducible refine gate_callee (f := 34) rfl ?_); refine goesL_ (some 24) rfl rfl Tryd.func34 (by kernel_rfl) rfl #[.int .i64 a1] rfl (by (try simp only [List.map_toArray, List.map_cons, List.map_nil]); first | done | rfl | (simp only [List.length_drop, List.length_take]; rfl)) ?_; (with_reducible refine (witheref6_in.calls k1 a1 t211 _ A6.out).mono ?_); rintro e w' ⟨rfl, ⟨nd, rfl⟩⟩; refine ⟨_, rfl, ?_⟩; have hcz118_0 : w117.cell? ⟨gb209, 0, none⟩ = some (.int .i64 ((rd_T45 l0 x6_1).f0)) := (blk_cell BK209.out 0).trans rfl; have hcz118_1 : w117.cell? ⟨gb209, 1, none⟩ = some (.int .i64 ((rd_T45 l0 x6_1).f1)) := (blk_cell BK209.out 1).trans rfl; have hcz118_2 : w117.cell? ⟨gb209, 2, none⟩ = some (.string ((rd_T45 l0 x6_1).f2)) := (blk_cell BK209.out 2).trans rfl; have hcz118_3 : w117.cell? ⟨gb209, 3, none⟩ = some (.string ((rd_T45 l0 x6_1).f3)) := (blk_cell BK209.out 3).trans rfl; have hcz118_4 : w117.cell? ⟨gb209, 4, none⟩ = some (.slice A208_4 ((rd_T45 l0 x6_1).f4).length c208_4) := (blk_cell BK209.out 4).trans rfl; have hcz118_5 : w117.cell? ⟨gb209, 5, none⟩ = some (.slice A208_5 ((rd_T45 l0 x6_1).f5).length c208_5) := (blk_cell BK209.out 5).trans rfl; have hcz118_6 : w117.cell? ⟨gb209, 6, none⟩ = some (.slice A208_6 ((rd_T45 l0 x6_1).f6).length c208_6) := (blk_cell BK209.out 6).trans rfl; have hfz118_0 := blk_frozen BK209.out 0; have hfz118_1 := blk_frozen BK209.out 1; have hfz118_2 := blk_frozen BK209.out 2; have hfz118_3 := blk_frozen BK209.out 3; have hfz118_4 := blk_frozen BK209.out 4; have hfz118_5 := blk_frozen BK209.out 5; have hfz118_6 := blk_frozen BK209.out 6) | ((with_reducible refine gate_callee (f := 22) rfl ?_); refine goesL_ (some 146) rfl rfl Tryd.func22 (by kernel_rfl) rfl #[.slice A208_5 ((rd_T45 l0 x6_1).f5).length c208_5, .int .i64 (wrap64 (a1 + 1))] rfl (by (try simp only [List.map_toArray, List.map_cons, List.map_nil]); first | done | rfl | (simp only [List.length_drop, List.length_take]; rfl)) ?_; (with_reducible refine (ih k1 (by have := HK1.out; omega) _ _ ((rd_T45 l0 x6_1).f5) (wrap64 (a1 + 1)) t218 _ ?side1 ?side2 A97.out).mono ?_); (case side1 => repeat (first | exact (Kd.C_below HR208_5.out (by repeat (first | (with_reducible first | exact HB.out | apply below_alloc | apply pw_below_drewN | apply below_drew1 | refine below_set ?_ GE209.out) | exact HB.out))) | (with_reducible refine Kd.C_alloc ?_ _) | (with_reducible refine Kd.C_drewN ?_ _) | (with_reducible refine Kd.C_drew ?_))); (case side2 => exact HC208_5.out); rintro e w119 ⟨rfl, hb⟩; refine ⟨_, rfl, ?_⟩; have n0_ := Aside0.mk (blk_below (g := gb209) (o := .cells #[.int .i64 ((rd_T45 l0 x6_1).f0), .int .i64 ((rd_T45 l0 x6_1).f1), .string ((rd_T45 l0 x6_1).f2), .string ((rd_T45 l0 x6_1).f3), .slice A208_4 ((rd_T45 l0 x6_1).f4).length c208_4, .slice A208_5 ((rd_T45 l0 x6_1).f5).length c208_5, .slice A208_6 ((rd_T45 l0 x6_1).f6).length c208_6] 45 (0, 0)) (by (with_reducible repeat (first | refine blk_drewN ?_ _ | refine blk_drew ?_ | refine blk_alloc ?_ _)); exact BK209.out) hb); have n1_ := Aside0.mk (below_step (by repeat (first | (with_reducible first | exact HB.out | apply below_alloc | apply pw_below_drewN | apply below_drew1 | refine below_set ?_ GE209.out) | exact HB.out)) hb); clear BK209; clear HB; have BK209 := n0_; have HB := n1_; clear n0_ n1_; (try clear hb); (try clear hb2); (try clear hk); (try clear hi); have hcz120_0 : w119.cell? ⟨gb209, 0, none⟩ = some (.int .i64 ((rd_T45 l0 x6_1).f0)) := (blk_cell BK209.out 0).trans rfl; have hcz120_1 : w119.cell? ⟨gb209, 1, none⟩ = some (.int .i64 ((rd_T45 l0 x6_1).f1)) := (blk_cell BK209.out 1).trans rfl; have hcz120_2 : w119.cell? ⟨gb209, 2, none⟩ = some (.string ((rd_T45 l0 x6_1).f2)) := (blk_cell BK209.out 2).trans rfl; have hcz120_3 : w119.cell? ⟨gb209, 3, none⟩ = some (.string ((rd_T45 l0 x6_1).f3)) := (blk_cell BK209.out 3).trans rfl; have hcz120_4 : w119.cell? ⟨gb209, 4, none⟩ = some (.slice A208_4 ((rd_T45 l0 x6_1).f4).length c208_4) := (blk_cell BK209.out 4).trans rfl; have hcz120_5 : w119.cell? ⟨gb209, 5, none⟩ = some (.slice A208_5 ((rd_T45 l0 x6_1).f5).length c208_5) := (blk_cell BK209.out 5).trans rfl; have hcz120_6 : w119.cell? ⟨gb209, 6, none⟩ = some (.slice A208_6 ((rd_T45 l0 x6_1).f6).length c208_6) := (blk_cell BK209.out 6).trans rfl; have hfz120_0 := blk_frozen BK209.out 0; have hfz120_1 := blk_frozen BK209.out 1; have hfz120_2 := blk_frozen BK209.out 2; have hfz120_3 := blk_frozen BK209.out 3; have hfz120_4 := blk_frozen BK209.out 4; have hfz120_5 := blk_frozen BK209.out 5; have hfz120_6 := blk_frozen BK209.out 6))
                    go_roundg k1
                    case measure => have := HK1.out; omega
                    case rel => exact ⟨(((((((x5_1 ++ t211) ++ (⟨#[105, 102, 32]⟩ : ByteArray)) ++ t210) ++ (⟨#[32, 123, 10]⟩ : ByteArray)) ++ t218) ++ t211) ++ (⟨#[125, 10]⟩ : ByteArray)), (wrap64 (x6_1 + 1)), (by first | rfl | (simp; done) | (simp [*]; done)), (by first | rfl | (simp; done) | (simp [*]; done)), H', ⟨by have := HK1.out; omega⟩, ⟨by repeat (first | (with_reducible first | exact HB.out | apply below_alloc | apply pw_below_drewN | apply below_drew1 | refine below_set ?_ GE209.out) | exact HB.out)⟩⟩
                   ·rw [if_neg c114] at H
                    exact absurd H (by simp)
                  ·rw [if_neg c113] at H
                   exact absurd H (by simp)
                ·rw [if_neg c98] at H
                 exact absurd H (by simp)
               ·rw [if_neg c96] at H
                exact absurd H (by simp)
              ·rw [if_neg c95] at H
               exact absurd H (by simp)
             ·rw [if_neg c94] at H
              exact absurd H (by simp)
            ·rw [if_neg c93] at H
             exact absurd H (by simp)
           ·rw [if_neg c92] at H
            have c92b0 : (((rd_T45 l0 x6_1).f0) == 7) = false := beq_eq_false_iff_ne.mpr c92
            have c92b1 : (((rd_T45 l0 x6_1).f0) != 7) = true := bne_iff_ne.mpr c92
            have H' := Aside0.mk H
            clear H
            have p208 : 0 ≤ (x6_1 : Int) := of_decide_eq_true (by first | (with_reducible assumption) | assumption)
            have q208 : x6_1 < (l0.length : Int) := of_decide_eq_true (by first | (with_reducible assumption) | assumption)
            obtain ⟨ad208, A208_4, c208_4, A208_5, c208_5, A208_6, c208_6, e208, hx208_0, hx208_1, hx208_2, hx208_3, hx208_4, hx208_5, hx208_6, hl208_4, hi208_4, hl208_5, hi208_5, hl208_6, hi208_6⟩ := at_T45 HR0.out x6_1 p208 q208
            cases e208
            replace hx208_0 := (HB.out.cell (World.block_lt_of_cell? w _ hx208_0)).trans hx208_0
            replace hx208_1 := (HB.out.cell (World.block_lt_of_cell? w _ hx208_1)).trans hx208_1
            replace hx208_2 := (HB.out.cell (World.block_lt_of_cell? w _ hx208_2)).trans hx208_2
            replace hx208_3 := (HB.out.cell (World.block_lt_of_cell? w _ hx208_3)).trans hx208_3
            replace hx208_4 := (HB.out.cell (World.block_lt_of_cell? w _ hx208_4)).trans hx208_4
            replace hx208_5 := (HB.out.cell (World.block_lt_of_cell? w _ hx208_5)).trans hx208_5
            replace hx208_6 := (HB.out.cell (World.block_lt_of_cell? w _ hx208_6)).trans hx208_6
            have HR208_4 := Aside0.mk hi208_4
            have HC208_4 := Aside0.mk hl208_4
            clear hi208_4 hl208_4
            have HR208_5 := Aside0.mk hi208_5
            have HC208_5 := Aside0.mk hl208_5
            clear hi208_5 hl208_5
            have HR208_6 := Aside0.mk hi208_6
            have HC208_6 := Aside0.mk hl208_6
            clear hi208_6 hl208_6
            replace p208 := eq_true p208
            replace q208 := eq_true q208
            go_wp2_with (first | ((with_reducible refine gate_dst (N := 7) rfl ?_); refine box_event ?hg (N := 7) ?hd (cs := #[.int .i64 0, .int .i64 0, .string (⟨#[]⟩ : ByteArray), .string (⟨#[]⟩ : ByteArray), .slice none 0 0, .slice none 0 0, .slice none 0 0]) (t := 45) ?hr ?_; (case hd => rfl); (case hg => rfl); (case hr => first | (go_simp; done) | (go_simp; rfl)); intro gb209 hg w121 hbox hb; have n0_ := Aside0.mk (below_step (by repeat (first | (with_reducible first | exact HB.out | apply below_alloc | apply pw_below_drewN | apply below_drew1) | exact HB.out)) hb); have n1_ := Aside0.mk (hbox); have n2_ := Aside0.mk ((by rw [hg]; exact (below_size (by repeat (first | (with_reducible first | exact HB.out | apply below_alloc | apply pw_below_drewN | apply below_drew1) | exact HB.out))) : w.heap.size ≤ gb209)); have n3_ := Aside0.mk ((by rw [hg]; exact (below_size (by repeat (first | (with_reducible first | exact HB.out | apply below_alloc | apply pw_below_drewN | apply below_drew1) | exact HB.out))) : w.heap.size ≤ gb209)); clear HB; have HB := n0_; have BK209 := n1_; have GW209 := n2_; have GE209 := n3_; clear n0_ n1_ n2_ n3_; clear hb hbox hg; have hcz122_0 : w121.cell? ⟨gb209, 0, none⟩ = some (.int .i64 0) := (blk_cell BK209.out 0).trans rfl; have hcz122_1 : w121.cell? ⟨gb209, 1, none⟩ = some (.int .i64 0) := (blk_cell BK209.out 1).trans rfl; have hcz122_2 : w121.cell? ⟨gb209, 2, none⟩ = some (.string (⟨#[]⟩ : ByteArray)) := (blk_cell BK209.out 2).trans rfl; have hcz122_3 : w121.cell? ⟨gb209, 3, none⟩ = some (.string (⟨#[]⟩ : ByteArray)) := (blk_cell BK209.out 3).trans rfl; have hcz122_4 : w121.cell? ⟨gb209, 4, none⟩ = some (.slice none 0 0) := (blk_cell BK209.out 4).trans rfl; have hcz122_5 : w121.cell? ⟨gb209, 5, none⟩ = some (.slice none 0 0) := (blk_cell BK209.out 5).trans rfl; have hcz122_6 : w121.cell? ⟨gb209, 6, none⟩ = some (.slice none 0 0) := (blk_cell BK209.out 6).trans rfl; have hfz122_0 := blk_frozen BK209.out 0; have hfz122_1 := blk_frozen BK209.out 1; have hfz122_2 := blk_frozen BK209.out 2; have hfz122_3 := blk_frozen BK209.out 3; have hfz122_4 := blk_frozen BK209.out 4; have hfz122_5 := blk_frozen BK209.out 5; have hfz122_6 := blk_frozen BK209.out 6) | ((with_reducible refine gate_callee (f := 25) rfl ?_); refine goesL_ (some 22) rfl rfl Tryd.func25 (by kernel_rfl) rfl #[.slice A208_4 ((rd_T45 l0 x6_1).f4).length c208_4, .int .i64 0] rfl (by (try simp only [List.map_toArray, List.map_cons, List.map_nil]); first | done | rfl | (simp only [List.length_drop, List.length_take]; rfl)) ?_; (with_reducible refine (witheref6_kid.calls k1 _ _ ((rd_T45 l0 x6_1).f4) 0 t210 _ ?side1 ?side2 A5.out).mono ?_); (case side1 => exact Kd.C_below HR208_4.out (by repeat (first | (with_reducible first | exact HB.out | apply below_alloc | apply pw_below_drewN | apply below_drew1 | refine below_set ?_ GE209.out) | exact HB.out))); (case side2 => exact HC208_4.out); rintro e w123 ⟨rfl, hb⟩; refine ⟨_, rfl, ?_⟩; have n0_ := Aside0.mk (blk_below (g := gb209) (o := .cells #[.int .i64 ((rd_T45 l0 x6_1).f0), .int .i64 ((rd_T45 l0 x6_1).f1), .string ((rd_T45 l0 x6_1).f2), .string ((rd_T45 l0 x6_1).f3), .slice A208_4 ((rd_T45 l0 x6_1).f4).length c208_4, .slice A208_5 ((rd_T45 l0 x6_1).f5).length c208_5, .slice A208_6 ((rd_T45 l0 x6_1).f6).length c208_6] 45 (0, 0)) (by (with_reducible repeat (first | refine blk_drewN ?_ _ | refine blk_drew ?_ | refine blk_alloc ?_ _)); refine blk_put (cs := #[.int .i64 ((rd_T45 l0 x6_1).f0), .int .i64 ((rd_T45 l0 x6_1).f1), .string ((rd_T45 l0 x6_1).f2), .string ((rd_T45 l0 x6_1).f3), .slice A208_4 ((rd_T45 l0 x6_1).f4).length c208_4, .slice A208_5 ((rd_T45 l0 x6_1).f5).length c208_5, .slice none 0 0]) ?_ 6 _ rfl; (with_reducible repeat (first | refine blk_drewN ?_ _ | refine blk_drew ?_ | refine blk_alloc ?_ _)); refine blk_put (cs := #[.int .i64 ((rd_T45 l0 x6_1).f0), .int .i64 ((rd_T45 l0 x6_1).f1), .string ((rd_T45 l0 x6_1).f2), .string ((rd_T45 l0 x6_1).f3), .slice A208_4 ((rd_T45 l0 x6_1).f4).length c208_4, .slice none 0 0, .slice none 0 0]) ?_ 5 _ rfl; (with_reducible repeat (first | refine blk_drewN ?_ _ | refine blk_drew ?_ | refine blk_alloc ?_ _)); refine blk_put (cs := #[.int .i64 ((rd_T45 l0 x6_1).f0), .int .i64 ((rd_T45 l0 x6_1).f1), .string ((rd_T45 l0 x6_1).f2), .string ((rd_T45 l0 x6_1).f3), .slice none 0 0, .slice none 0 0, .slice none 0 0]) ?_ 4 _ rfl; (with_reducible repeat (first | refine blk_drewN ?_ _ | refine blk_drew ?_ | refine blk_alloc ?_ _)); refine blk_put (cs := #[.int .i64 ((rd_T45 l0 x6_1).f0), .int .i64 ((rd_T45 l0 x6_1).f1), .string ((rd_T45 l0 x6_1).f2), .string (⟨#[]⟩ : ByteArray), .slice none 0 0, .slice none 0 0, .slice none 0 0]) ?_ 3 _ rfl; (with_reducible repeat (first | refine blk_drewN ?_ _ | refine blk_drew ?_ | refine blk_alloc ?_ _)); refine blk_put (cs := #[.int .i64 ((rd_T45 l0 x6_1).f0), .int .i64 ((rd_T45 l0 x6_1).f1), .string (⟨#[]⟩ : ByteArray), .string (⟨#[]⟩ : ByteArray), .slice none 0 0, .slice none 0 0, .slice none 0 0]) ?_ 2 _ rfl; (with_reducible repeat (first | refine blk_drewN ?_ _ | refine blk_drew ?_ | refine blk_alloc ?_ _)); refine blk_put (cs := #[.int .i64 ((rd_T45 l0 x6_1).f0), .int .i64 0, .string (⟨#[]⟩ : ByteArray), .string (⟨#[]⟩ : ByteArray), .slice none 0 0, .slice none 0 0, .slice none 0 0]) ?_ 1 _ rfl; (with_reducible repeat (first | refine blk_drewN ?_ _ | refine blk_drew ?_ | refine blk_alloc ?_ _)); refine blk_put (cs := #[.int .i64 0, .int .i64 0, .string (⟨#[]⟩ : ByteArray), .string (⟨#[]⟩ : ByteArray), .slice none 0 0, .slice none 0 0, .slice none 0 0]) ?_ 0 _ rfl; (with_reducible repeat (first | refine blk_drewN ?_ _ | refine blk_drew ?_ | refine blk_alloc ?_ _)); exact BK209.out) hb); have n1_ := Aside0.mk (below_step (by repeat (first | (with_reducible first | exact HB.out | apply below_alloc | apply pw_below_drewN | apply below_drew1 | refine below_set ?_ GE209.out) | exact HB.out)) hb); clear BK209; clear HB; have BK209 := n0_; have HB := n1_; clear n0_ n1_; (try clear hb); (try clear hb2); (try clear hk); (try clear hi)) | ((with_reducible refine gate_callee (f := 34) rfl ?_); refine goesL_ (some 24) rfl rfl Tryd.func34 (by kernel_rfl) rfl #[.int .i64 a1] rfl (by (try simp only [List.map_toArray, List.map_cons, List.map_nil]); first | done | rfl | (simp only [List.length_drop, List.length_take]; rfl)) ?_; (with_reducible refine (witheref6_in.calls k1 a1 t211 _ A6.out).mono ?_); rintro e w' ⟨rfl, ⟨nd, rfl⟩⟩; refine ⟨_, rfl, ?_⟩; have hcz124_0 : w123.cell? ⟨gb209, 0, none⟩ = some (.int .i64 ((rd_T45 l0 x6_1).f0)) := (blk_cell BK209.out 0).trans rfl; have hcz124_1 : w123.cell? ⟨gb209, 1, none⟩ = some (.int .i64 ((rd_T45 l0 x6_1).f1)) := (blk_cell BK209.out 1).trans rfl; have hcz124_2 : w123.cell? ⟨gb209, 2, none⟩ = some (.string ((rd_T45 l0 x6_1).f2)) := (blk_cell BK209.out 2).trans rfl; have hcz124_3 : w123.cell? ⟨gb209, 3, none⟩ = some (.string ((rd_T45 l0 x6_1).f3)) := (blk_cell BK209.out 3).trans rfl; have hcz124_4 : w123.cell? ⟨gb209, 4, none⟩ = some (.slice A208_4 ((rd_T45 l0 x6_1).f4).length c208_4) := (blk_cell BK209.out 4).trans rfl; have hcz124_5 : w123.cell? ⟨gb209, 5, none⟩ = some (.slice A208_5 ((rd_T45 l0 x6_1).f5).length c208_5) := (blk_cell BK209.out 5).trans rfl; have hcz124_6 : w123.cell? ⟨gb209, 6, none⟩ = some (.slice A208_6 ((rd_T45 l0 x6_1).f6).length c208_6) := (blk_cell BK209.out 6).trans rfl; have hfz124_0 := blk_frozen BK209.out 0; have hfz124_1 := blk_frozen BK209.out 1; have hfz124_2 := blk_frozen BK209.out 2; have hfz124_3 := blk_frozen BK209.out 3; have hfz124_4 := blk_frozen BK209.out 4; have hfz124_5 := blk_frozen BK209.out 5; have hfz124_6 := blk_frozen BK209.out 6))
            go_roundg k1
            case measure => have := HK1.out; omega
            case rel => exact ⟨(x5_1), (wrap64 (x6_1 + 1)), (by first | rfl | (simp; done) | (simp [*]; done)), (by first | rfl | (simp; done) | (simp [*]; done)), H', ⟨by have := HK1.out; omega⟩, ⟨by repeat (first | (with_reducible first | exact HB.out | apply below_alloc | apply pw_below_drewN | apply below_drew1 | refine below_set ?_ GE209.out) | exact HB.out)⟩⟩
    ·rw [if_neg c4] at H
     exact absurd H (by simp)
   ·rw [if_neg c3] at H
    have c3b0 : decide (x6_1 < (l0.length : Int)) = false := decide_eq_false c3
    clear c3
    obtain rfl := Option.some.inj H
    go_wp2
    go_ret
    exact ⟨by first | rfl | (simp [errW_none, errW_some] <;> rfl) | (simp [*, errW_none, errW_some] <;> rfl), by repeat (first | (with_reducible first | exact HB.out | apply below_alloc | apply pw_below_drewN | apply below_drew1) | exact HB.out)⟩

end Go.Proofs.YtpldhihdlgghlaaDoor.PS
