-- made by fvprint.py over the kit's print
import Derived.Test.YtmifncmnchnioaaPLx0
import Derived.Test.YtmifncmnchnioaaPLx1
import Derived.Test.YtmifncmnchnioaaPLx6
import Derived.Test.YtmifncmnchnioaaPLx7
import Derived.Test.YtmifncmnchnioaaPLx14
import Derived.Lib.SlBytesConst
namespace Go.Proofs.Ytmifncmnchnioaa.PL
open Go.RowKit Go.Proofs.YtmifncmnchnioaaW.PrintWords Go.Proofs.YtmifncmnchnioaaW.PrintLast Go.Proofs.YtmifncmnchnioaaW.PrintMore
attribute [local go_sem] max2_int min2_int max_two min_two max_three min_three max_four min_four   -- for this text's walks alone
set_option linter.unusedVariables false
set_option linter.unusedSimpArgs false

attribute [local go_sem high] eqA26
attribute [local go_sem] cell_set_some
theorem C_lit_const (w : World) (xs : List Int) (e : TypeId) (C : Array Value) (f : Nat × Nat) (hC : C = (xs.map (Value.int .u8)).toArray) (hm : xs.length ≤ 9223372036854775807 := by decide) :
    Kd.C (Kd.int .u8) (w.alloc (.cells C e f)) (some ⟨w.heap.size, 0, none⟩) xs.length xs := by
  subst hC
  refine ⟨rfl, hm, fun _ => ⟨_, rfl, fun j p hp => ⟨[.int .u8 p], rfl, rfl, fun i u hu => ?_⟩⟩⟩
  have hi : i = 0 := by
    rcases i with _ | i
    · rfl
    · simp at hu
  subst hi
  have hu' : u = .int .u8 p := by simpa using hu.symm
  subst hu'
  have hsz : (Kd.int .u8).sz = 1 := rfl
  rw [hsz, Nat.mul_one, Nat.add_zero]
  have h1 : (w.alloc (.cells (xs.map (Value.int .u8)).toArray e f)).heap[w.heap.size]? = some (.cells (xs.map (Value.int .u8)).toArray e f) := by
    show (w.heap.push _)[w.heap.size]? = _
    simp
  have h2 : (⟨w.heap.size, 0, none⟩ : Addr).add j = ⟨w.heap.size, j, none⟩ := by
    unfold Addr.add
    split
    · rename_i h; rw [h]
    · rw [Nat.zero_add]
  rw [h2]
  unfold World.cell?
  rw [h1]
  show (xs.map (Value.int .u8)).toArray[j]? = _
  rw [List.getElem?_toArray, List.getElem?_map, hp]
  rfl
/-! ### withelaw6_LexFaults: function 6 -/
mutual
def withelaw6_LexFaults.j0 : Nat → List Int → Int → Int → Bool → Option (Bool)
  | 0, _, _, _, _ => none
  | k + 1, x0, x1, x2, x61 => if x61 = true then (some true) else ((some (([123, 125, 40, 41, 59, 44, 58, 61, 60, 43, 45, 47] : List Int) : List Int)).bind fun y319 => (withelaw6_LexFaults.l0 k x0 x1 x2 y319 (y319.length : Int) 0))
def withelaw6_LexFaults.l0 : Nat → List Int → Int → Int → List Int → Int → Int → Option (Bool)
  | 0, _, _, _, _, _, _ => none
  | k + 1, x0, x1, x2, x63, x64, x65 => if x65 < x64 then (if 0 ≤ x65 then (if x65 < (x63.length : Int) then (if x1 = (rd x63 x65) then (some true) else (withelaw6_LexFaults.l0 k x0 x1 x2 x63 x64 (wrap64 (x65 + 1)))) else (none)) else (none)) else (if (wrap64 ((wrap64 ((x0.length : Int) / 2)) + 1)) = 0 then (none) else (withelaw6_LexFaults.l1 k x0 x1 (⟨#[]⟩ : ByteArray) (-1) (Int.tmod (wrap64 (x2)) (wrap64 ((wrap64 ((x0.length : Int) / 2)) + 1))) 0))
def withelaw6_LexFaults.l1 : Nat → List Int → Int → ByteArray → Int → Int → Int → Option (Bool)
  | 0, _, _, _, _, _, _ => none
  | k + 1, x0, x1, x9, x10, x11, x12 => if (wrap64 (x12 + 1)) < (x0.length : Int) then (if (wrap64 (Int.tdiv x12 2)) = x11 then ((some (([x1] : List Int) : List Int)).bind fun y323 => (if x9.size + (strOfNums y323).size ≤ 9223372036854775807 then (if (x9 ++ (strOfNums y323)).size + 1 ≤ 9223372036854775807 then (if 0 ≤ x12 then (if x12 < (x0.length : Int) then (if 0 ≤ (wrap64 (x12 + 1)) then ((withelaw6_piece.f k (rd x0 x12) (rd x0 (wrap64 (x12 + 1)))).bind fun bt328 => (if ((x9 ++ (strOfNums y323)) ++ (⟨#[32]⟩ : ByteArray)).size + bt328.1.size ≤ 9223372036854775807 then (if (((x9 ++ (strOfNums y323)) ++ (⟨#[32]⟩ : ByteArray)) ++ bt328.1).size + 1 ≤ 9223372036854775807 then (withelaw6_LexFaults.l1 k x0 x1 ((((x9 ++ (strOfNums y323)) ++ (⟨#[32]⟩ : ByteArray)) ++ bt328.1) ++ (⟨#[32]⟩ : ByteArray)) (x9.size : Int) x11 (wrap64 (x12 + 2))) else (none)) else (none))) else (none)) else (none)) else (none)) else (none)) else (none))) else (if 0 ≤ x12 then (if x12 < (x0.length : Int) then (if 0 ≤ (wrap64 (x12 + 1)) then ((withelaw6_piece.f k (rd x0 x12) (rd x0 (wrap64 (x12 + 1)))).bind fun bt332 => (if x9.size + bt332.1.size ≤ 9223372036854775807 then (if (x9 ++ bt332.1).size + 1 ≤ 9223372036854775807 then (withelaw6_LexFaults.l1 k x0 x1 ((x9 ++ bt332.1) ++ (⟨#[32]⟩ : ByteArray)) x10 x11 (wrap64 (x12 + 2))) else (none)) else (none))) else (none)) else (none)) else (none))) else (if x10 < 0 then ((some (([x1] : List Int) : List Int)).bind fun y334 => (if x9.size + (strOfNums y334).size ≤ 9223372036854775807 then ((lex_Lex.f k (x9 ++ (strOfNums y334))).bind fun bt337 => (if 2 + (x9 ++ (strOfNums y334)).size ≤ 9223372036854775807 then ((lex_Lex.f k ((⟨#[47, 47]⟩ : ByteArray) ++ (x9 ++ (strOfNums y334)))).bind fun bt343 => (if (bt337.2.1 == 2 && (bt337.2.2 == (x9.size : Int))) = true then (some (bt343.2.1 == 0 && (bt343.2.2 == 0))) else (none))) else (none))) else (none))) else ((lex_Lex.f k x9).bind fun bt349 => (if 2 + x9.size ≤ 9223372036854775807 then ((lex_Lex.f k ((⟨#[47, 47]⟩ : ByteArray) ++ x9)).bind fun bt355 => (if (bt349.2.1 == 2 && (bt349.2.2 == x10)) = true then (some (bt355.2.1 == 0 && (bt355.2.2 == 0))) else (none))) else (none))))
end
def withelaw6_LexFaults.f (k : Nat) (l0 : List Int) (a1 : Int) (a2 : Int) : Option (Bool) := (withelaw6_begun.f k).bind fun t318 => (if t318 = true then (if (l0.length : Int) > 60 then (some true) else (if a1 ≥ 48 then (if a1 ≤ 57 then (withelaw6_LexFaults.j0 k l0 a1 a2 true) else (if a1 ≥ 65 then (if a1 ≤ 90 then (withelaw6_LexFaults.j0 k l0 a1 a2 true) else (if a1 ≥ 97 then (if a1 ≤ 122 then (withelaw6_LexFaults.j0 k l0 a1 a2 true) else (if a1 = 32 then (withelaw6_LexFaults.j0 k l0 a1 a2 true) else (if a1 = 9 then (withelaw6_LexFaults.j0 k l0 a1 a2 true) else (if a1 = 10 then (withelaw6_LexFaults.j0 k l0 a1 a2 true) else (withelaw6_LexFaults.j0 k l0 a1 a2 (a1 == 13)))))) else (if a1 = 32 then (withelaw6_LexFaults.j0 k l0 a1 a2 true) else (if a1 = 9 then (withelaw6_LexFaults.j0 k l0 a1 a2 true) else (if a1 = 10 then (withelaw6_LexFaults.j0 k l0 a1 a2 true) else (withelaw6_LexFaults.j0 k l0 a1 a2 (a1 == 13))))))) else (if a1 ≥ 97 then (if a1 ≤ 122 then (withelaw6_LexFaults.j0 k l0 a1 a2 true) else (if a1 = 32 then (withelaw6_LexFaults.j0 k l0 a1 a2 true) else (if a1 = 9 then (withelaw6_LexFaults.j0 k l0 a1 a2 true) else (if a1 = 10 then (withelaw6_LexFaults.j0 k l0 a1 a2 true) else (withelaw6_LexFaults.j0 k l0 a1 a2 (a1 == 13)))))) else (if a1 = 32 then (withelaw6_LexFaults.j0 k l0 a1 a2 true) else (if a1 = 9 then (withelaw6_LexFaults.j0 k l0 a1 a2 true) else (if a1 = 10 then (withelaw6_LexFaults.j0 k l0 a1 a2 true) else (withelaw6_LexFaults.j0 k l0 a1 a2 (a1 == 13)))))))) else (if a1 ≥ 65 then (if a1 ≤ 90 then (withelaw6_LexFaults.j0 k l0 a1 a2 true) else (if a1 ≥ 97 then (if a1 ≤ 122 then (withelaw6_LexFaults.j0 k l0 a1 a2 true) else (if a1 = 32 then (withelaw6_LexFaults.j0 k l0 a1 a2 true) else (if a1 = 9 then (withelaw6_LexFaults.j0 k l0 a1 a2 true) else (if a1 = 10 then (withelaw6_LexFaults.j0 k l0 a1 a2 true) else (withelaw6_LexFaults.j0 k l0 a1 a2 (a1 == 13)))))) else (if a1 = 32 then (withelaw6_LexFaults.j0 k l0 a1 a2 true) else (if a1 = 9 then (withelaw6_LexFaults.j0 k l0 a1 a2 true) else (if a1 = 10 then (withelaw6_LexFaults.j0 k l0 a1 a2 true) else (withelaw6_LexFaults.j0 k l0 a1 a2 (a1 == 13))))))) else (if a1 ≥ 97 then (if a1 ≤ 122 then (withelaw6_LexFaults.j0 k l0 a1 a2 true) else (if a1 = 32 then (withelaw6_LexFaults.j0 k l0 a1 a2 true) else (if a1 = 9 then (withelaw6_LexFaults.j0 k l0 a1 a2 true) else (if a1 = 10 then (withelaw6_LexFaults.j0 k l0 a1 a2 true) else (withelaw6_LexFaults.j0 k l0 a1 a2 (a1 == 13)))))) else (if a1 = 32 then (withelaw6_LexFaults.j0 k l0 a1 a2 true) else (if a1 = 9 then (withelaw6_LexFaults.j0 k l0 a1 a2 true) else (if a1 = 10 then (withelaw6_LexFaults.j0 k l0 a1 a2 true) else (withelaw6_LexFaults.j0 k l0 a1 a2 (a1 == 13))))))))) else (none))
theorem withelaw6_LexFaults.mono_l : ∀ k, (∀ y0 y1 y2 y3, LeO (withelaw6_LexFaults.j0 k y0 y1 y2 y3) (withelaw6_LexFaults.j0 (k + 1) y0 y1 y2 y3)) ∧ (∀ y0 y1 y2 y3 y4 y5, LeO (withelaw6_LexFaults.l0 k y0 y1 y2 y3 y4 y5) (withelaw6_LexFaults.l0 (k + 1) y0 y1 y2 y3 y4 y5)) ∧ (∀ y0 y1 y2 y3 y4 y5, LeO (withelaw6_LexFaults.l1 k y0 y1 y2 y3 y4 y5) (withelaw6_LexFaults.l1 (k + 1) y0 y1 y2 y3 y4 y5))
  | 0 => ⟨fun _ _ _ _ r h => by simp [withelaw6_LexFaults.j0] at h, fun _ _ _ _ _ _ r h => by simp [withelaw6_LexFaults.l0] at h, fun _ _ _ _ _ _ r h => by simp [withelaw6_LexFaults.l1] at h⟩
  | k + 1 => by
    obtain ⟨ih0, ih1, ih2⟩ := withelaw6_LexFaults.mono_l k
    refine ⟨?_, ?_, ?_⟩
    · intro y0 y1 y2 y3
      unfold withelaw6_LexFaults.j0
      repeat' first
      | (with_reducible exact ih0 _ _ _ _)
      | (with_reducible exact ih1 _ _ _ _ _ _)
      | (with_reducible exact ih2 _ _ _ _ _ _)
      | (with_reducible exact lex_Lex.mono _ _)
      | (with_reducible exact withelaw6_begun.mono _)
      | (with_reducible exact withelaw6_piece.mono _ _ _)
      | (with_reducible exact LeO.refl _)
      | (with_reducible exact LeO.none _)
      | (with_reducible refine LeO.ite ?_ ?_)
      | (with_reducible refine LeO.bind ?_ (fun _ => ?_))
      | exact ih0 _ _ _ _
      | exact ih1 _ _ _ _ _ _
      | exact ih2 _ _ _ _ _ _
      | exact lex_Lex.mono _ _
      | exact withelaw6_begun.mono _
      | exact withelaw6_piece.mono _ _ _
      | exact LeO.none _
      | refine LeO.ite ?_ ?_
      | refine LeO.bind ?_ (fun _ => ?_)
    · intro y0 y1 y2 y3 y4 y5
      unfold withelaw6_LexFaults.l0
      repeat' first
      | (with_reducible exact ih0 _ _ _ _)
      | (with_reducible exact ih1 _ _ _ _ _ _)
      | (with_reducible exact ih2 _ _ _ _ _ _)
      | (with_reducible exact lex_Lex.mono _ _)
      | (with_reducible exact withelaw6_begun.mono _)
      | (with_reducible exact withelaw6_piece.mono _ _ _)
      | (with_reducible exact LeO.refl _)
      | (with_reducible exact LeO.none _)
      | (with_reducible refine LeO.ite ?_ ?_)
      | (with_reducible refine LeO.bind ?_ (fun _ => ?_))
      | exact ih0 _ _ _ _
      | exact ih1 _ _ _ _ _ _
      | exact ih2 _ _ _ _ _ _
      | exact lex_Lex.mono _ _
      | exact withelaw6_begun.mono _
      | exact withelaw6_piece.mono _ _ _
      | exact LeO.none _
      | refine LeO.ite ?_ ?_
      | refine LeO.bind ?_ (fun _ => ?_)
    · intro y0 y1 y2 y3 y4 y5
      unfold withelaw6_LexFaults.l1
      repeat' first
      | (with_reducible exact ih0 _ _ _ _)
      | (with_reducible exact ih1 _ _ _ _ _ _)
      | (with_reducible exact ih2 _ _ _ _ _ _)
      | (with_reducible exact lex_Lex.mono _ _)
      | (with_reducible exact withelaw6_begun.mono _)
      | (with_reducible exact withelaw6_piece.mono _ _ _)
      | (with_reducible exact LeO.refl _)
      | (with_reducible exact LeO.none _)
      | (with_reducible refine LeO.ite ?_ ?_)
      | (with_reducible refine LeO.bind ?_ (fun _ => ?_))
      | exact ih0 _ _ _ _
      | exact ih1 _ _ _ _ _ _
      | exact ih2 _ _ _ _ _ _
      | exact lex_Lex.mono _ _
      | exact withelaw6_begun.mono _
      | exact withelaw6_piece.mono _ _ _
      | exact LeO.none _
      | refine LeO.ite ?_ ?_
      | refine LeO.bind ?_ (fun _ => ?_)
theorem withelaw6_LexFaults.mono : ∀ a0 a1 a2 k, LeO (withelaw6_LexFaults.f k a0 a1 a2) (withelaw6_LexFaults.f (k + 1) a0 a1 a2) := by
  intro a0 a1 a2 k
  obtain ⟨ih0, ih1, ih2⟩ := withelaw6_LexFaults.mono_l k
  unfold withelaw6_LexFaults.f
  repeat' first
      | (with_reducible exact ih0 _ _ _ _)
      | (with_reducible exact ih1 _ _ _ _ _ _)
      | (with_reducible exact ih2 _ _ _ _ _ _)
      | (with_reducible exact lex_Lex.mono _ _)
      | (with_reducible exact withelaw6_begun.mono _)
      | (with_reducible exact withelaw6_piece.mono _ _ _)
      | (with_reducible exact LeO.refl _)
      | (with_reducible exact LeO.none _)
      | (with_reducible refine LeO.ite ?_ ?_)
      | (with_reducible refine LeO.bind ?_ (fun _ => ?_))
      | exact ih0 _ _ _ _
      | exact ih1 _ _ _ _ _ _
      | exact ih2 _ _ _ _ _ _
      | exact lex_Lex.mono _ _
      | exact withelaw6_begun.mono _
      | exact withelaw6_piece.mono _ _ _
      | exact LeO.none _
      | refine LeO.ite ?_ ?_
      | refine LeO.bind ?_ (fun _ => ?_)
def withelaw6_LexFaults.T21 : Bool × List (List Nat × List Nat) := (true, [([], []), ([], []), ([0, 1], [0, 1]), ([2], [2]), ([], []), ([], []), ([5], [5]), ([4, 6], [4, 6]), ([7], [7]), ([3, 8], [3, 8]), ([9], [9]), ([10], [10]), ([10], [10]), ([11, 9, 0, 1, 2, 3, 4, 5, 6, 7, 8, 9, 10, 11], [11]), ([12, 13, 0, 1, 2, 3, 4, 5, 6, 7, 8, 9, 10, 11, 12, 13], [12])])
def withelaw6_LexFaults.B21 : List Nat := [0, 0, 3, 7, 0, 0, 32, 112, 240, 511, 1023, 2047, 2047, 4095, 16383]
theorem withelaw6_LexFaults.tab21 : rtab .any (opsOf Try.f6 21) = withelaw6_LexFaults.T21 := by kernel_rfl
theorem withelaw6_LexFaults.bits21 : waitsOk withelaw6_LexFaults.T21.2 withelaw6_LexFaults.B21 = true := by kernel_rfl
set_option maxHeartbeats 8000000 in
set_option maxRecDepth 100000 in
theorem withelaw6_LexFaults.calls (k : Nat) (A0 : Option Addr) (c0 : Nat) (l0 : List Int) (a1 : Int) (a2 : Int) (r : Bool) (w : World) (hr0 : Kd.C (Kd.int .u8) w A0 l0.length l0) (hc0 : l0.length ≤ c0) (h : withelaw6_LexFaults.f k l0 a1 a2 = some r) :
    Calls Try.prog 6 #[.slice A0 l0.length c0, .int .u8 a1, .int .u8 a2] w fun e w' => e = .returned (.bool r) ∧ Below w.heap.size w w' := by
  have hu26 := Try.underlying26
  have HR0 := Aside0.mk hr0
  have HC0 := Aside0.mk hc0
  clear hr0 hc0
  have HB := Aside0.mk (Below.refl w.heap.size w)
  have H : ((withelaw6_begun.f k).bind fun t318 => (if t318 = true then (if (l0.length : Int) > 60 then (some true) else (if a1 ≥ 48 then (if a1 ≤ 57 then (withelaw6_LexFaults.j0 k l0 a1 a2 true) else (if a1 ≥ 65 then (if a1 ≤ 90 then (withelaw6_LexFaults.j0 k l0 a1 a2 true) else (if a1 ≥ 97 then (if a1 ≤ 122 then (withelaw6_LexFaults.j0 k l0 a1 a2 true) else (if a1 = 32 then (withelaw6_LexFaults.j0 k l0 a1 a2 true) else (if a1 = 9 then (withelaw6_LexFaults.j0 k l0 a1 a2 true) else (if a1 = 10 then (withelaw6_LexFaults.j0 k l0 a1 a2 true) else (withelaw6_LexFaults.j0 k l0 a1 a2 (a1 == 13)))))) else (if a1 = 32 then (withelaw6_LexFaults.j0 k l0 a1 a2 true) else (if a1 = 9 then (withelaw6_LexFaults.j0 k l0 a1 a2 true) else (if a1 = 10 then (withelaw6_LexFaults.j0 k l0 a1 a2 true) else (withelaw6_LexFaults.j0 k l0 a1 a2 (a1 == 13))))))) else (if a1 ≥ 97 then (if a1 ≤ 122 then (withelaw6_LexFaults.j0 k l0 a1 a2 true) else (if a1 = 32 then (withelaw6_LexFaults.j0 k l0 a1 a2 true) else (if a1 = 9 then (withelaw6_LexFaults.j0 k l0 a1 a2 true) else (if a1 = 10 then (withelaw6_LexFaults.j0 k l0 a1 a2 true) else (withelaw6_LexFaults.j0 k l0 a1 a2 (a1 == 13)))))) else (if a1 = 32 then (withelaw6_LexFaults.j0 k l0 a1 a2 true) else (if a1 = 9 then (withelaw6_LexFaults.j0 k l0 a1 a2 true) else (if a1 = 10 then (withelaw6_LexFaults.j0 k l0 a1 a2 true) else (withelaw6_LexFaults.j0 k l0 a1 a2 (a1 == 13)))))))) else (if a1 ≥ 65 then (if a1 ≤ 90 then (withelaw6_LexFaults.j0 k l0 a1 a2 true) else (if a1 ≥ 97 then (if a1 ≤ 122 then (withelaw6_LexFaults.j0 k l0 a1 a2 true) else (if a1 = 32 then (withelaw6_LexFaults.j0 k l0 a1 a2 true) else (if a1 = 9 then (withelaw6_LexFaults.j0 k l0 a1 a2 true) else (if a1 = 10 then (withelaw6_LexFaults.j0 k l0 a1 a2 true) else (withelaw6_LexFaults.j0 k l0 a1 a2 (a1 == 13)))))) else (if a1 = 32 then (withelaw6_LexFaults.j0 k l0 a1 a2 true) else (if a1 = 9 then (withelaw6_LexFaults.j0 k l0 a1 a2 true) else (if a1 = 10 then (withelaw6_LexFaults.j0 k l0 a1 a2 true) else (withelaw6_LexFaults.j0 k l0 a1 a2 (a1 == 13))))))) else (if a1 ≥ 97 then (if a1 ≤ 122 then (withelaw6_LexFaults.j0 k l0 a1 a2 true) else (if a1 = 32 then (withelaw6_LexFaults.j0 k l0 a1 a2 true) else (if a1 = 9 then (withelaw6_LexFaults.j0 k l0 a1 a2 true) else (if a1 = 10 then (withelaw6_LexFaults.j0 k l0 a1 a2 true) else (withelaw6_LexFaults.j0 k l0 a1 a2 (a1 == 13)))))) else (if a1 = 32 then (withelaw6_LexFaults.j0 k l0 a1 a2 true) else (if a1 = 9 then (withelaw6_LexFaults.j0 k l0 a1 a2 true) else (if a1 = 10 then (withelaw6_LexFaults.j0 k l0 a1 a2 true) else (withelaw6_LexFaults.j0 k l0 a1 a2 (a1 == 13))))))))) else (none))) = some r := h
  clear h
  replace H := Option.bind_eq_some_iff.mp H
  obtain ⟨t318, A40, H⟩ := H
  replace H : (if t318 = true then (if (l0.length : Int) > 60 then (some true) else (if a1 ≥ 48 then (if a1 ≤ 57 then (withelaw6_LexFaults.j0 k l0 a1 a2 true) else (if a1 ≥ 65 then (if a1 ≤ 90 then (withelaw6_LexFaults.j0 k l0 a1 a2 true) else (if a1 ≥ 97 then (if a1 ≤ 122 then (withelaw6_LexFaults.j0 k l0 a1 a2 true) else (if a1 = 32 then (withelaw6_LexFaults.j0 k l0 a1 a2 true) else (if a1 = 9 then (withelaw6_LexFaults.j0 k l0 a1 a2 true) else (if a1 = 10 then (withelaw6_LexFaults.j0 k l0 a1 a2 true) else (withelaw6_LexFaults.j0 k l0 a1 a2 (a1 == 13)))))) else (if a1 = 32 then (withelaw6_LexFaults.j0 k l0 a1 a2 true) else (if a1 = 9 then (withelaw6_LexFaults.j0 k l0 a1 a2 true) else (if a1 = 10 then (withelaw6_LexFaults.j0 k l0 a1 a2 true) else (withelaw6_LexFaults.j0 k l0 a1 a2 (a1 == 13))))))) else (if a1 ≥ 97 then (if a1 ≤ 122 then (withelaw6_LexFaults.j0 k l0 a1 a2 true) else (if a1 = 32 then (withelaw6_LexFaults.j0 k l0 a1 a2 true) else (if a1 = 9 then (withelaw6_LexFaults.j0 k l0 a1 a2 true) else (if a1 = 10 then (withelaw6_LexFaults.j0 k l0 a1 a2 true) else (withelaw6_LexFaults.j0 k l0 a1 a2 (a1 == 13)))))) else (if a1 = 32 then (withelaw6_LexFaults.j0 k l0 a1 a2 true) else (if a1 = 9 then (withelaw6_LexFaults.j0 k l0 a1 a2 true) else (if a1 = 10 then (withelaw6_LexFaults.j0 k l0 a1 a2 true) else (withelaw6_LexFaults.j0 k l0 a1 a2 (a1 == 13)))))))) else (if a1 ≥ 65 then (if a1 ≤ 90 then (withelaw6_LexFaults.j0 k l0 a1 a2 true) else (if a1 ≥ 97 then (if a1 ≤ 122 then (withelaw6_LexFaults.j0 k l0 a1 a2 true) else (if a1 = 32 then (withelaw6_LexFaults.j0 k l0 a1 a2 true) else (if a1 = 9 then (withelaw6_LexFaults.j0 k l0 a1 a2 true) else (if a1 = 10 then (withelaw6_LexFaults.j0 k l0 a1 a2 true) else (withelaw6_LexFaults.j0 k l0 a1 a2 (a1 == 13)))))) else (if a1 = 32 then (withelaw6_LexFaults.j0 k l0 a1 a2 true) else (if a1 = 9 then (withelaw6_LexFaults.j0 k l0 a1 a2 true) else (if a1 = 10 then (withelaw6_LexFaults.j0 k l0 a1 a2 true) else (withelaw6_LexFaults.j0 k l0 a1 a2 (a1 == 13))))))) else (if a1 ≥ 97 then (if a1 ≤ 122 then (withelaw6_LexFaults.j0 k l0 a1 a2 true) else (if a1 = 32 then (withelaw6_LexFaults.j0 k l0 a1 a2 true) else (if a1 = 9 then (withelaw6_LexFaults.j0 k l0 a1 a2 true) else (if a1 = 10 then (withelaw6_LexFaults.j0 k l0 a1 a2 true) else (withelaw6_LexFaults.j0 k l0 a1 a2 (a1 == 13)))))) else (if a1 = 32 then (withelaw6_LexFaults.j0 k l0 a1 a2 true) else (if a1 = 9 then (withelaw6_LexFaults.j0 k l0 a1 a2 true) else (if a1 = 10 then (withelaw6_LexFaults.j0 k l0 a1 a2 true) else (withelaw6_LexFaults.j0 k l0 a1 a2 (a1 == 13))))))))) else (none)) = some r := H
  have A4 := Aside0.mk A40
  clear A40
  by_cases c5 : t318 = true
  · subst c5
    have H1 : (if (l0.length : Int) > 60 then (some true) else (if a1 ≥ 48 then (if a1 ≤ 57 then (withelaw6_LexFaults.j0 k l0 a1 a2 true) else (if a1 ≥ 65 then (if a1 ≤ 90 then (withelaw6_LexFaults.j0 k l0 a1 a2 true) else (if a1 ≥ 97 then (if a1 ≤ 122 then (withelaw6_LexFaults.j0 k l0 a1 a2 true) else (if a1 = 32 then (withelaw6_LexFaults.j0 k l0 a1 a2 true) else (if a1 = 9 then (withelaw6_LexFaults.j0 k l0 a1 a2 true) else (if a1 = 10 then (withelaw6_LexFaults.j0 k l0 a1 a2 true) else (withelaw6_LexFaults.j0 k l0 a1 a2 (a1 == 13)))))) else (if a1 = 32 then (withelaw6_LexFaults.j0 k l0 a1 a2 true) else (if a1 = 9 then (withelaw6_LexFaults.j0 k l0 a1 a2 true) else (if a1 = 10 then (withelaw6_LexFaults.j0 k l0 a1 a2 true) else (withelaw6_LexFaults.j0 k l0 a1 a2 (a1 == 13))))))) else (if a1 ≥ 97 then (if a1 ≤ 122 then (withelaw6_LexFaults.j0 k l0 a1 a2 true) else (if a1 = 32 then (withelaw6_LexFaults.j0 k l0 a1 a2 true) else (if a1 = 9 then (withelaw6_LexFaults.j0 k l0 a1 a2 true) else (if a1 = 10 then (withelaw6_LexFaults.j0 k l0 a1 a2 true) else (withelaw6_LexFaults.j0 k l0 a1 a2 (a1 == 13)))))) else (if a1 = 32 then (withelaw6_LexFaults.j0 k l0 a1 a2 true) else (if a1 = 9 then (withelaw6_LexFaults.j0 k l0 a1 a2 true) else (if a1 = 10 then (withelaw6_LexFaults.j0 k l0 a1 a2 true) else (withelaw6_LexFaults.j0 k l0 a1 a2 (a1 == 13)))))))) else (if a1 ≥ 65 then (if a1 ≤ 90 then (withelaw6_LexFaults.j0 k l0 a1 a2 true) else (if a1 ≥ 97 then (if a1 ≤ 122 then (withelaw6_LexFaults.j0 k l0 a1 a2 true) else (if a1 = 32 then (withelaw6_LexFaults.j0 k l0 a1 a2 true) else (if a1 = 9 then (withelaw6_LexFaults.j0 k l0 a1 a2 true) else (if a1 = 10 then (withelaw6_LexFaults.j0 k l0 a1 a2 true) else (withelaw6_LexFaults.j0 k l0 a1 a2 (a1 == 13)))))) else (if a1 = 32 then (withelaw6_LexFaults.j0 k l0 a1 a2 true) else (if a1 = 9 then (withelaw6_LexFaults.j0 k l0 a1 a2 true) else (if a1 = 10 then (withelaw6_LexFaults.j0 k l0 a1 a2 true) else (withelaw6_LexFaults.j0 k l0 a1 a2 (a1 == 13))))))) else (if a1 ≥ 97 then (if a1 ≤ 122 then (withelaw6_LexFaults.j0 k l0 a1 a2 true) else (if a1 = 32 then (withelaw6_LexFaults.j0 k l0 a1 a2 true) else (if a1 = 9 then (withelaw6_LexFaults.j0 k l0 a1 a2 true) else (if a1 = 10 then (withelaw6_LexFaults.j0 k l0 a1 a2 true) else (withelaw6_LexFaults.j0 k l0 a1 a2 (a1 == 13)))))) else (if a1 = 32 then (withelaw6_LexFaults.j0 k l0 a1 a2 true) else (if a1 = 9 then (withelaw6_LexFaults.j0 k l0 a1 a2 true) else (if a1 = 10 then (withelaw6_LexFaults.j0 k l0 a1 a2 true) else (withelaw6_LexFaults.j0 k l0 a1 a2 (a1 == 13))))))))) = some r := by rw [if_pos rfl] at H; exact H
    clear H
    have H := H1
    clear H1
    by_cases c6 : (l0.length : Int) > 60
    · rw [if_pos c6] at H
      have c6b0 : decide (60 < (l0.length : Int)) = true := decide_eq_true c6
      have c6b1 : decide (60 < l0.length) = true := decide_eq_true (by omega)
      clear c6
      obtain rfl := Option.some.inj H
      go_enter Try.func6, Try.ntmps6
      go_wp2_with (first | ((with_reducible refine gate_callee (f := 8) rfl ?_); refine goesL_ (some 19) rfl rfl Try.func8 (by kernel_rfl) rfl #[] rfl (by (try simp only [List.map_toArray, List.map_cons, List.map_nil]); first | done | rfl | (simp only [List.length_drop, List.length_take]; rfl)) ?_; (with_reducible refine (withelaw6_begun.calls k  true _ A4.out).mono ?_); rintro e w7 ⟨rfl, hb⟩; refine ⟨_, rfl, ?_⟩; have n0_ := Aside0.mk (below_step (by repeat (first | (with_reducible first | exact HB.out | apply below_alloc | apply pw_below_drewN | apply below_drew1) | exact HB.out)) hb); clear HB; have HB := n0_; clear n0_; (try clear hb); (try clear hb2); (try clear hk); (try clear hi)))
      go_ret
      exact ⟨by first | rfl | (simp [errW_none, errW_some] <;> rfl) | (simp [*, errW_none, errW_some] <;> rfl), by repeat (first | (with_reducible first | exact HB.out | apply below_alloc | apply pw_below_drewN | apply below_drew1) | exact HB.out)⟩
    · rw [if_neg c6] at H
      have c6b0 : decide (60 < (l0.length : Int)) = false := decide_eq_false c6
      have c6b1 : decide (60 < l0.length) = false := decide_eq_false (by omega)
      clear c6
      have HC8 := Aside0.mk H
      clear H
      go_enter Try.func6, Try.ntmps6
      go_upto_region 5 with (first | ((with_reducible refine gate_callee (f := 8) rfl ?_); refine goesL_ (some 19) rfl rfl Try.func8 (by kernel_rfl) rfl #[] rfl (by (try simp only [List.map_toArray, List.map_cons, List.map_nil]); first | done | rfl | (simp only [List.length_drop, List.length_take]; rfl)) ?_; (with_reducible refine (withelaw6_begun.calls k  true _ A4.out).mono ?_); rintro e w9 ⟨rfl, hb⟩; refine ⟨_, rfl, ?_⟩; have n0_ := Aside0.mk (below_step (by repeat (first | (with_reducible first | exact HB.out | apply below_alloc | apply pw_below_drewN | apply below_drew1) | exact HB.out)) hb); clear HB; have HB := n0_; clear n0_; (try clear hb); (try clear hb2); (try clear hk); (try clear hi)))
      (try simp only [Act.put, List.setIfInBounds_toArray, List.set_cons_zero, List.set_cons_succ])
      go_cut [61] (fun v61 wc => ∃ (kq : Nat) (x61_7 : Bool), v61 = .bool x61_7 ∧ Aside0 (withelaw6_LexFaults.j0 kq l0 a1 a2 x61_7 = some r) ∧ Aside0 (kq ≤ k) ∧ Aside0 (Below w.heap.size w wc))
      case first =>
        have H := HC8.out
        clear HC8
        by_cases c10 : a1 ≥ 48
        · rw [if_pos c10] at H
          have c10b0 : decide (48 ≤ a1) = true := decide_eq_true c10
          clear c10
          (first | rw [c10b0] | (simp only [i64_w, i32_w]; rw [c10b0]) | skip)
          by_cases c11 : a1 ≤ 57
          · rw [if_pos c11] at H
            have c11b0 : decide (a1 ≤ 57) = true := decide_eq_true c11
            clear c11
            have H' := Aside0.mk H
            clear H
            go_wp2
            go_meet
            case rel => exact ⟨_, (true), (by first | rfl | (simp; done) | (simp [*]; done)), H', ⟨by first | omega | exact Nat.le_refl _⟩, ⟨by repeat (first | (with_reducible first | exact HB.out | apply below_alloc | apply pw_below_drewN | apply below_drew1) | exact HB.out)⟩⟩
          · rw [if_neg c11] at H
            have c11b0 : decide (a1 ≤ 57) = false := decide_eq_false c11
            clear c11
            by_cases c12 : a1 ≥ 65
            · rw [if_pos c12] at H
              have c12b0 : decide (65 ≤ a1) = true := decide_eq_true c12
              clear c12
              by_cases c13 : a1 ≤ 90
              · rw [if_pos c13] at H
                have c13b0 : decide (a1 ≤ 90) = true := decide_eq_true c13
                clear c13
                have H' := Aside0.mk H
                clear H
                go_wp2
                go_meet
                case rel => exact ⟨_, (true), (by first | rfl | (simp; done) | (simp [*]; done)), H', ⟨by first | omega | exact Nat.le_refl _⟩, ⟨by repeat (first | (with_reducible first | exact HB.out | apply below_alloc | apply pw_below_drewN | apply below_drew1) | exact HB.out)⟩⟩
              · rw [if_neg c13] at H
                have c13b0 : decide (a1 ≤ 90) = false := decide_eq_false c13
                clear c13
                by_cases c14 : a1 ≥ 97
                · rw [if_pos c14] at H
                  have c14b0 : decide (97 ≤ a1) = true := decide_eq_true c14
                  clear c14
                  by_cases c15 : a1 ≤ 122
                  · rw [if_pos c15] at H
                    have c15b0 : decide (a1 ≤ 122) = true := decide_eq_true c15
                    clear c15
                    have H' := Aside0.mk H
                    clear H
                    go_wp2
                    go_meet
                    case rel => exact ⟨_, (true), (by first | rfl | (simp; done) | (simp [*]; done)), H', ⟨by first | omega | exact Nat.le_refl _⟩, ⟨by repeat (first | (with_reducible first | exact HB.out | apply below_alloc | apply pw_below_drewN | apply below_drew1) | exact HB.out)⟩⟩
                  · rw [if_neg c15] at H
                    have c15b0 : decide (a1 ≤ 122) = false := decide_eq_false c15
                    clear c15
                    by_cases c16 : a1 = 32
                    · rw [if_pos c16] at H
                      have c16b0 : (a1 == 32) = true := beq_iff_eq.mpr c16
                      have c16b1 : (a1 != 32) = false := bne_eq_false_iff_eq.mpr c16
                      clear c16
                      have H' := Aside0.mk H
                      clear H
                      go_wp2
                      go_meet
                      case rel => exact ⟨_, (true), (by first | rfl | (simp; done) | (simp [*]; done)), H', ⟨by first | omega | exact Nat.le_refl _⟩, ⟨by repeat (first | (with_reducible first | exact HB.out | apply below_alloc | apply pw_below_drewN | apply below_drew1) | exact HB.out)⟩⟩
                    · rw [if_neg c16] at H
                      have c16b0 : (a1 == 32) = false := beq_eq_false_iff_ne.mpr c16
                      have c16b1 : (a1 != 32) = true := bne_iff_ne.mpr c16
                      by_cases c17 : a1 = 9
                      · rw [if_pos c17] at H
                        have c17b0 : (a1 == 9) = true := beq_iff_eq.mpr c17
                        have c17b1 : (a1 != 9) = false := bne_eq_false_iff_eq.mpr c17
                        clear c17
                        have H' := Aside0.mk H
                        clear H
                        go_wp2
                        go_meet
                        case rel => exact ⟨_, (true), (by first | rfl | (simp; done) | (simp [*]; done)), H', ⟨by first | omega | exact Nat.le_refl _⟩, ⟨by repeat (first | (with_reducible first | exact HB.out | apply below_alloc | apply pw_below_drewN | apply below_drew1) | exact HB.out)⟩⟩
                      · rw [if_neg c17] at H
                        have c17b0 : (a1 == 9) = false := beq_eq_false_iff_ne.mpr c17
                        have c17b1 : (a1 != 9) = true := bne_iff_ne.mpr c17
                        by_cases c18 : a1 = 10
                        · rw [if_pos c18] at H
                          have c18b0 : (a1 == 10) = true := beq_iff_eq.mpr c18
                          have c18b1 : (a1 != 10) = false := bne_eq_false_iff_eq.mpr c18
                          clear c18
                          have H' := Aside0.mk H
                          clear H
                          go_wp2
                          go_meet
                          case rel => exact ⟨_, (true), (by first | rfl | (simp; done) | (simp [*]; done)), H', ⟨by first | omega | exact Nat.le_refl _⟩, ⟨by repeat (first | (with_reducible first | exact HB.out | apply below_alloc | apply pw_below_drewN | apply below_drew1) | exact HB.out)⟩⟩
                        · rw [if_neg c18] at H
                          have c18b0 : (a1 == 10) = false := beq_eq_false_iff_ne.mpr c18
                          have c18b1 : (a1 != 10) = true := bne_iff_ne.mpr c18
                          have H' := Aside0.mk H
                          clear H
                          go_wp2
                          go_meet
                          case rel => exact ⟨_, ((a1 == 13)), (by first | rfl | (simp; done) | (simp [*]; done)), H', ⟨by first | omega | exact Nat.le_refl _⟩, ⟨by repeat (first | (with_reducible first | exact HB.out | apply below_alloc | apply pw_below_drewN | apply below_drew1) | exact HB.out)⟩⟩
                · rw [if_neg c14] at H
                  have c14b0 : decide (97 ≤ a1) = false := decide_eq_false c14
                  clear c14
                  by_cases c19 : a1 = 32
                  · rw [if_pos c19] at H
                    have c19b0 : (a1 == 32) = true := beq_iff_eq.mpr c19
                    have c19b1 : (a1 != 32) = false := bne_eq_false_iff_eq.mpr c19
                    clear c19
                    have H' := Aside0.mk H
                    clear H
                    go_wp2
                    go_meet
                    case rel => exact ⟨_, (true), (by first | rfl | (simp; done) | (simp [*]; done)), H', ⟨by first | omega | exact Nat.le_refl _⟩, ⟨by repeat (first | (with_reducible first | exact HB.out | apply below_alloc | apply pw_below_drewN | apply below_drew1) | exact HB.out)⟩⟩
                  · rw [if_neg c19] at H
                    have c19b0 : (a1 == 32) = false := beq_eq_false_iff_ne.mpr c19
                    have c19b1 : (a1 != 32) = true := bne_iff_ne.mpr c19
                    by_cases c20 : a1 = 9
                    · rw [if_pos c20] at H
                      have c20b0 : (a1 == 9) = true := beq_iff_eq.mpr c20
                      have c20b1 : (a1 != 9) = false := bne_eq_false_iff_eq.mpr c20
                      clear c20
                      have H' := Aside0.mk H
                      clear H
                      go_wp2
                      go_meet
                      case rel => exact ⟨_, (true), (by first | rfl | (simp; done) | (simp [*]; done)), H', ⟨by first | omega | exact Nat.le_refl _⟩, ⟨by repeat (first | (with_reducible first | exact HB.out | apply below_alloc | apply pw_below_drewN | apply below_drew1) | exact HB.out)⟩⟩
                    · rw [if_neg c20] at H
                      have c20b0 : (a1 == 9) = false := beq_eq_false_iff_ne.mpr c20
                      have c20b1 : (a1 != 9) = true := bne_iff_ne.mpr c20
                      by_cases c21 : a1 = 10
                      · rw [if_pos c21] at H
                        have c21b0 : (a1 == 10) = true := beq_iff_eq.mpr c21
                        have c21b1 : (a1 != 10) = false := bne_eq_false_iff_eq.mpr c21
                        clear c21
                        have H' := Aside0.mk H
                        clear H
                        go_wp2
                        go_meet
                        case rel => exact ⟨_, (true), (by first | rfl | (simp; done) | (simp [*]; done)), H', ⟨by first | omega | exact Nat.le_refl _⟩, ⟨by repeat (first | (with_reducible first | exact HB.out | apply below_alloc | apply pw_below_drewN | apply below_drew1) | exact HB.out)⟩⟩
                      · rw [if_neg c21] at H
                        have c21b0 : (a1 == 10) = false := beq_eq_false_iff_ne.mpr c21
                        have c21b1 : (a1 != 10) = true := bne_iff_ne.mpr c21
                        have H' := Aside0.mk H
                        clear H
                        go_wp2
                        go_meet
                        case rel => exact ⟨_, ((a1 == 13)), (by first | rfl | (simp; done) | (simp [*]; done)), H', ⟨by first | omega | exact Nat.le_refl _⟩, ⟨by repeat (first | (with_reducible first | exact HB.out | apply below_alloc | apply pw_below_drewN | apply below_drew1) | exact HB.out)⟩⟩
            · rw [if_neg c12] at H
              have c12b0 : decide (65 ≤ a1) = false := decide_eq_false c12
              clear c12
              by_cases c22 : a1 ≥ 97
              · rw [if_pos c22] at H
                have c22b0 : decide (97 ≤ a1) = true := decide_eq_true c22
                clear c22
                by_cases c23 : a1 ≤ 122
                · rw [if_pos c23] at H
                  have c23b0 : decide (a1 ≤ 122) = true := decide_eq_true c23
                  clear c23
                  have H' := Aside0.mk H
                  clear H
                  go_wp2
                  go_meet
                  case rel => exact ⟨_, (true), (by first | rfl | (simp; done) | (simp [*]; done)), H', ⟨by first | omega | exact Nat.le_refl _⟩, ⟨by repeat (first | (with_reducible first | exact HB.out | apply below_alloc | apply pw_below_drewN | apply below_drew1) | exact HB.out)⟩⟩
                · rw [if_neg c23] at H
                  have c23b0 : decide (a1 ≤ 122) = false := decide_eq_false c23
                  clear c23
                  by_cases c24 : a1 = 32
                  · rw [if_pos c24] at H
                    have c24b0 : (a1 == 32) = true := beq_iff_eq.mpr c24
                    have c24b1 : (a1 != 32) = false := bne_eq_false_iff_eq.mpr c24
                    clear c24
                    have H' := Aside0.mk H
                    clear H
                    go_wp2
                    go_meet
                    case rel => exact ⟨_, (true), (by first | rfl | (simp; done) | (simp [*]; done)), H', ⟨by first | omega | exact Nat.le_refl _⟩, ⟨by repeat (first | (with_reducible first | exact HB.out | apply below_alloc | apply pw_below_drewN | apply below_drew1) | exact HB.out)⟩⟩
                  · rw [if_neg c24] at H
                    have c24b0 : (a1 == 32) = false := beq_eq_false_iff_ne.mpr c24
                    have c24b1 : (a1 != 32) = true := bne_iff_ne.mpr c24
                    by_cases c25 : a1 = 9
                    · rw [if_pos c25] at H
                      have c25b0 : (a1 == 9) = true := beq_iff_eq.mpr c25
                      have c25b1 : (a1 != 9) = false := bne_eq_false_iff_eq.mpr c25
                      clear c25
                      have H' := Aside0.mk H
                      clear H
                      go_wp2
                      go_meet
                      case rel => exact ⟨_, (true), (by first | rfl | (simp; done) | (simp [*]; done)), H', ⟨by first | omega | exact Nat.le_refl _⟩, ⟨by repeat (first | (with_reducible first | exact HB.out | apply below_alloc | apply pw_below_drewN | apply below_drew1) | exact HB.out)⟩⟩
                    · rw [if_neg c25] at H
                      have c25b0 : (a1 == 9) = false := beq_eq_false_iff_ne.mpr c25
                      have c25b1 : (a1 != 9) = true := bne_iff_ne.mpr c25
                      by_cases c26 : a1 = 10
                      · rw [if_pos c26] at H
                        have c26b0 : (a1 == 10) = true := beq_iff_eq.mpr c26
                        have c26b1 : (a1 != 10) = false := bne_eq_false_iff_eq.mpr c26
                        clear c26
                        have H' := Aside0.mk H
                        clear H
                        go_wp2
                        go_meet
                        case rel => exact ⟨_, (true), (by first | rfl | (simp; done) | (simp [*]; done)), H', ⟨by first | omega | exact Nat.le_refl _⟩, ⟨by repeat (first | (with_reducible first | exact HB.out | apply below_alloc | apply pw_below_drewN | apply below_drew1) | exact HB.out)⟩⟩
                      · rw [if_neg c26] at H
                        have c26b0 : (a1 == 10) = false := beq_eq_false_iff_ne.mpr c26
                        have c26b1 : (a1 != 10) = true := bne_iff_ne.mpr c26
                        have H' := Aside0.mk H
                        clear H
                        go_wp2
                        go_meet
                        case rel => exact ⟨_, ((a1 == 13)), (by first | rfl | (simp; done) | (simp [*]; done)), H', ⟨by first | omega | exact Nat.le_refl _⟩, ⟨by repeat (first | (with_reducible first | exact HB.out | apply below_alloc | apply pw_below_drewN | apply below_drew1) | exact HB.out)⟩⟩
              · rw [if_neg c22] at H
                have c22b0 : decide (97 ≤ a1) = false := decide_eq_false c22
                clear c22
                by_cases c27 : a1 = 32
                · rw [if_pos c27] at H
                  have c27b0 : (a1 == 32) = true := beq_iff_eq.mpr c27
                  have c27b1 : (a1 != 32) = false := bne_eq_false_iff_eq.mpr c27
                  clear c27
                  have H' := Aside0.mk H
                  clear H
                  go_wp2
                  go_meet
                  case rel => exact ⟨_, (true), (by first | rfl | (simp; done) | (simp [*]; done)), H', ⟨by first | omega | exact Nat.le_refl _⟩, ⟨by repeat (first | (with_reducible first | exact HB.out | apply below_alloc | apply pw_below_drewN | apply below_drew1) | exact HB.out)⟩⟩
                · rw [if_neg c27] at H
                  have c27b0 : (a1 == 32) = false := beq_eq_false_iff_ne.mpr c27
                  have c27b1 : (a1 != 32) = true := bne_iff_ne.mpr c27
                  by_cases c28 : a1 = 9
                  · rw [if_pos c28] at H
                    have c28b0 : (a1 == 9) = true := beq_iff_eq.mpr c28
                    have c28b1 : (a1 != 9) = false := bne_eq_false_iff_eq.mpr c28
                    clear c28
                    have H' := Aside0.mk H
                    clear H
                    go_wp2
                    go_meet
                    case rel => exact ⟨_, (true), (by first | rfl | (simp; done) | (simp [*]; done)), H', ⟨by first | omega | exact Nat.le_refl _⟩, ⟨by repeat (first | (with_reducible first | exact HB.out | apply below_alloc | apply pw_below_drewN | apply below_drew1) | exact HB.out)⟩⟩
                  · rw [if_neg c28] at H
                    have c28b0 : (a1 == 9) = false := beq_eq_false_iff_ne.mpr c28
                    have c28b1 : (a1 != 9) = true := bne_iff_ne.mpr c28
                    by_cases c29 : a1 = 10
                    · rw [if_pos c29] at H
                      have c29b0 : (a1 == 10) = true := beq_iff_eq.mpr c29
                      have c29b1 : (a1 != 10) = false := bne_eq_false_iff_eq.mpr c29
                      clear c29
                      have H' := Aside0.mk H
                      clear H
                      go_wp2
                      go_meet
                      case rel => exact ⟨_, (true), (by first | rfl | (simp; done) | (simp [*]; done)), H', ⟨by first | omega | exact Nat.le_refl _⟩, ⟨by repeat (first | (with_reducible first | exact HB.out | apply below_alloc | apply pw_below_drewN | apply below_drew1) | exact HB.out)⟩⟩
                    · rw [if_neg c29] at H
                      have c29b0 : (a1 == 10) = false := beq_eq_false_iff_ne.mpr c29
                      have c29b1 : (a1 != 10) = true := bne_iff_ne.mpr c29
                      have H' := Aside0.mk H
                      clear H
                      go_wp2
                      go_meet
                      case rel => exact ⟨_, ((a1 == 13)), (by first | rfl | (simp; done) | (simp [*]; done)), H', ⟨by first | omega | exact Nat.le_refl _⟩, ⟨by repeat (first | (with_reducible first | exact HB.out | apply below_alloc | apply pw_below_drewN | apply below_drew1) | exact HB.out)⟩⟩
        · rw [if_neg c10] at H
          have c10b0 : decide (48 ≤ a1) = false := decide_eq_false c10
          clear c10
          (first | rw [c10b0] | (simp only [i64_w, i32_w]; rw [c10b0]) | skip)
          by_cases c30 : a1 ≥ 65
          · rw [if_pos c30] at H
            have c30b0 : decide (65 ≤ a1) = true := decide_eq_true c30
            clear c30
            by_cases c31 : a1 ≤ 90
            · rw [if_pos c31] at H
              have c31b0 : decide (a1 ≤ 90) = true := decide_eq_true c31
              clear c31
              have H' := Aside0.mk H
              clear H
              go_wp2
              go_meet
              case rel => exact ⟨_, (true), (by first | rfl | (simp; done) | (simp [*]; done)), H', ⟨by first | omega | exact Nat.le_refl _⟩, ⟨by repeat (first | (with_reducible first | exact HB.out | apply below_alloc | apply pw_below_drewN | apply below_drew1) | exact HB.out)⟩⟩
            · rw [if_neg c31] at H
              have c31b0 : decide (a1 ≤ 90) = false := decide_eq_false c31
              clear c31
              by_cases c32 : a1 ≥ 97
              · rw [if_pos c32] at H
                have c32b0 : decide (97 ≤ a1) = true := decide_eq_true c32
                clear c32
                by_cases c33 : a1 ≤ 122
                · rw [if_pos c33] at H
                  have c33b0 : decide (a1 ≤ 122) = true := decide_eq_true c33
                  clear c33
                  have H' := Aside0.mk H
                  clear H
                  go_wp2
                  go_meet
                  case rel => exact ⟨_, (true), (by first | rfl | (simp; done) | (simp [*]; done)), H', ⟨by first | omega | exact Nat.le_refl _⟩, ⟨by repeat (first | (with_reducible first | exact HB.out | apply below_alloc | apply pw_below_drewN | apply below_drew1) | exact HB.out)⟩⟩
                · rw [if_neg c33] at H
                  have c33b0 : decide (a1 ≤ 122) = false := decide_eq_false c33
                  clear c33
                  by_cases c34 : a1 = 32
                  · rw [if_pos c34] at H
                    have c34b0 : (a1 == 32) = true := beq_iff_eq.mpr c34
                    have c34b1 : (a1 != 32) = false := bne_eq_false_iff_eq.mpr c34
                    clear c34
                    have H' := Aside0.mk H
                    clear H
                    go_wp2
                    go_meet
                    case rel => exact ⟨_, (true), (by first | rfl | (simp; done) | (simp [*]; done)), H', ⟨by first | omega | exact Nat.le_refl _⟩, ⟨by repeat (first | (with_reducible first | exact HB.out | apply below_alloc | apply pw_below_drewN | apply below_drew1) | exact HB.out)⟩⟩
                  · rw [if_neg c34] at H
                    have c34b0 : (a1 == 32) = false := beq_eq_false_iff_ne.mpr c34
                    have c34b1 : (a1 != 32) = true := bne_iff_ne.mpr c34
                    by_cases c35 : a1 = 9
                    · rw [if_pos c35] at H
                      have c35b0 : (a1 == 9) = true := beq_iff_eq.mpr c35
                      have c35b1 : (a1 != 9) = false := bne_eq_false_iff_eq.mpr c35
                      clear c35
                      have H' := Aside0.mk H
                      clear H
                      go_wp2
                      go_meet
                      case rel => exact ⟨_, (true), (by first | rfl | (simp; done) | (simp [*]; done)), H', ⟨by first | omega | exact Nat.le_refl _⟩, ⟨by repeat (first | (with_reducible first | exact HB.out | apply below_alloc | apply pw_below_drewN | apply below_drew1) | exact HB.out)⟩⟩
                    · rw [if_neg c35] at H
                      have c35b0 : (a1 == 9) = false := beq_eq_false_iff_ne.mpr c35
                      have c35b1 : (a1 != 9) = true := bne_iff_ne.mpr c35
                      by_cases c36 : a1 = 10
                      · rw [if_pos c36] at H
                        have c36b0 : (a1 == 10) = true := beq_iff_eq.mpr c36
                        have c36b1 : (a1 != 10) = false := bne_eq_false_iff_eq.mpr c36
                        clear c36
                        have H' := Aside0.mk H
                        clear H
                        go_wp2
                        go_meet
                        case rel => exact ⟨_, (true), (by first | rfl | (simp; done) | (simp [*]; done)), H', ⟨by first | omega | exact Nat.le_refl _⟩, ⟨by repeat (first | (with_reducible first | exact HB.out | apply below_alloc | apply pw_below_drewN | apply below_drew1) | exact HB.out)⟩⟩
                      · rw [if_neg c36] at H
                        have c36b0 : (a1 == 10) = false := beq_eq_false_iff_ne.mpr c36
                        have c36b1 : (a1 != 10) = true := bne_iff_ne.mpr c36
                        have H' := Aside0.mk H
                        clear H
                        go_wp2
                        go_meet
                        case rel => exact ⟨_, ((a1 == 13)), (by first | rfl | (simp; done) | (simp [*]; done)), H', ⟨by first | omega | exact Nat.le_refl _⟩, ⟨by repeat (first | (with_reducible first | exact HB.out | apply below_alloc | apply pw_below_drewN | apply below_drew1) | exact HB.out)⟩⟩
              · rw [if_neg c32] at H
                have c32b0 : decide (97 ≤ a1) = false := decide_eq_false c32
                clear c32
                by_cases c37 : a1 = 32
                · rw [if_pos c37] at H
                  have c37b0 : (a1 == 32) = true := beq_iff_eq.mpr c37
                  have c37b1 : (a1 != 32) = false := bne_eq_false_iff_eq.mpr c37
                  clear c37
                  have H' := Aside0.mk H
                  clear H
                  go_wp2
                  go_meet
                  case rel => exact ⟨_, (true), (by first | rfl | (simp; done) | (simp [*]; done)), H', ⟨by first | omega | exact Nat.le_refl _⟩, ⟨by repeat (first | (with_reducible first | exact HB.out | apply below_alloc | apply pw_below_drewN | apply below_drew1) | exact HB.out)⟩⟩
                · rw [if_neg c37] at H
                  have c37b0 : (a1 == 32) = false := beq_eq_false_iff_ne.mpr c37
                  have c37b1 : (a1 != 32) = true := bne_iff_ne.mpr c37
                  by_cases c38 : a1 = 9
                  · rw [if_pos c38] at H
                    have c38b0 : (a1 == 9) = true := beq_iff_eq.mpr c38
                    have c38b1 : (a1 != 9) = false := bne_eq_false_iff_eq.mpr c38
                    clear c38
                    have H' := Aside0.mk H
                    clear H
                    go_wp2
                    go_meet
                    case rel => exact ⟨_, (true), (by first | rfl | (simp; done) | (simp [*]; done)), H', ⟨by first | omega | exact Nat.le_refl _⟩, ⟨by repeat (first | (with_reducible first | exact HB.out | apply below_alloc | apply pw_below_drewN | apply below_drew1) | exact HB.out)⟩⟩
                  · rw [if_neg c38] at H
                    have c38b0 : (a1 == 9) = false := beq_eq_false_iff_ne.mpr c38
                    have c38b1 : (a1 != 9) = true := bne_iff_ne.mpr c38
                    by_cases c39 : a1 = 10
                    · rw [if_pos c39] at H
                      have c39b0 : (a1 == 10) = true := beq_iff_eq.mpr c39
                      have c39b1 : (a1 != 10) = false := bne_eq_false_iff_eq.mpr c39
                      clear c39
                      have H' := Aside0.mk H
                      clear H
                      go_wp2
                      go_meet
                      case rel => exact ⟨_, (true), (by first | rfl | (simp; done) | (simp [*]; done)), H', ⟨by first | omega | exact Nat.le_refl _⟩, ⟨by repeat (first | (with_reducible first | exact HB.out | apply below_alloc | apply pw_below_drewN | apply below_drew1) | exact HB.out)⟩⟩
                    · rw [if_neg c39] at H
                      have c39b0 : (a1 == 10) = false := beq_eq_false_iff_ne.mpr c39
                      have c39b1 : (a1 != 10) = true := bne_iff_ne.mpr c39
                      have H' := Aside0.mk H
                      clear H
                      go_wp2
                      go_meet
                      case rel => exact ⟨_, ((a1 == 13)), (by first | rfl | (simp; done) | (simp [*]; done)), H', ⟨by first | omega | exact Nat.le_refl _⟩, ⟨by repeat (first | (with_reducible first | exact HB.out | apply below_alloc | apply pw_below_drewN | apply below_drew1) | exact HB.out)⟩⟩
          · rw [if_neg c30] at H
            have c30b0 : decide (65 ≤ a1) = false := decide_eq_false c30
            clear c30
            by_cases c40 : a1 ≥ 97
            · rw [if_pos c40] at H
              have c40b0 : decide (97 ≤ a1) = true := decide_eq_true c40
              clear c40
              by_cases c41 : a1 ≤ 122
              · rw [if_pos c41] at H
                have c41b0 : decide (a1 ≤ 122) = true := decide_eq_true c41
                clear c41
                have H' := Aside0.mk H
                clear H
                go_wp2
                go_meet
                case rel => exact ⟨_, (true), (by first | rfl | (simp; done) | (simp [*]; done)), H', ⟨by first | omega | exact Nat.le_refl _⟩, ⟨by repeat (first | (with_reducible first | exact HB.out | apply below_alloc | apply pw_below_drewN | apply below_drew1) | exact HB.out)⟩⟩
              · rw [if_neg c41] at H
                have c41b0 : decide (a1 ≤ 122) = false := decide_eq_false c41
                clear c41
                by_cases c42 : a1 = 32
                · rw [if_pos c42] at H
                  have c42b0 : (a1 == 32) = true := beq_iff_eq.mpr c42
                  have c42b1 : (a1 != 32) = false := bne_eq_false_iff_eq.mpr c42
                  clear c42
                  have H' := Aside0.mk H
                  clear H
                  go_wp2
                  go_meet
                  case rel => exact ⟨_, (true), (by first | rfl | (simp; done) | (simp [*]; done)), H', ⟨by first | omega | exact Nat.le_refl _⟩, ⟨by repeat (first | (with_reducible first | exact HB.out | apply below_alloc | apply pw_below_drewN | apply below_drew1) | exact HB.out)⟩⟩
                · rw [if_neg c42] at H
                  have c42b0 : (a1 == 32) = false := beq_eq_false_iff_ne.mpr c42
                  have c42b1 : (a1 != 32) = true := bne_iff_ne.mpr c42
                  by_cases c43 : a1 = 9
                  · rw [if_pos c43] at H
                    have c43b0 : (a1 == 9) = true := beq_iff_eq.mpr c43
                    have c43b1 : (a1 != 9) = false := bne_eq_false_iff_eq.mpr c43
                    clear c43
                    have H' := Aside0.mk H
                    clear H
                    go_wp2
                    go_meet
                    case rel => exact ⟨_, (true), (by first | rfl | (simp; done) | (simp [*]; done)), H', ⟨by first | omega | exact Nat.le_refl _⟩, ⟨by repeat (first | (with_reducible first | exact HB.out | apply below_alloc | apply pw_below_drewN | apply below_drew1) | exact HB.out)⟩⟩
                  · rw [if_neg c43] at H
                    have c43b0 : (a1 == 9) = false := beq_eq_false_iff_ne.mpr c43
                    have c43b1 : (a1 != 9) = true := bne_iff_ne.mpr c43
                    by_cases c44 : a1 = 10
                    · rw [if_pos c44] at H
                      have c44b0 : (a1 == 10) = true := beq_iff_eq.mpr c44
                      have c44b1 : (a1 != 10) = false := bne_eq_false_iff_eq.mpr c44
                      clear c44
                      have H' := Aside0.mk H
                      clear H
                      go_wp2
                      go_meet
                      case rel => exact ⟨_, (true), (by first | rfl | (simp; done) | (simp [*]; done)), H', ⟨by first | omega | exact Nat.le_refl _⟩, ⟨by repeat (first | (with_reducible first | exact HB.out | apply below_alloc | apply pw_below_drewN | apply below_drew1) | exact HB.out)⟩⟩
                    · rw [if_neg c44] at H
                      have c44b0 : (a1 == 10) = false := beq_eq_false_iff_ne.mpr c44
                      have c44b1 : (a1 != 10) = true := bne_iff_ne.mpr c44
                      have H' := Aside0.mk H
                      clear H
                      go_wp2
                      go_meet
                      case rel => exact ⟨_, ((a1 == 13)), (by first | rfl | (simp; done) | (simp [*]; done)), H', ⟨by first | omega | exact Nat.le_refl _⟩, ⟨by repeat (first | (with_reducible first | exact HB.out | apply below_alloc | apply pw_below_drewN | apply below_drew1) | exact HB.out)⟩⟩
            · rw [if_neg c40] at H
              have c40b0 : decide (97 ≤ a1) = false := decide_eq_false c40
              clear c40
              by_cases c45 : a1 = 32
              · rw [if_pos c45] at H
                have c45b0 : (a1 == 32) = true := beq_iff_eq.mpr c45
                have c45b1 : (a1 != 32) = false := bne_eq_false_iff_eq.mpr c45
                clear c45
                have H' := Aside0.mk H
                clear H
                go_wp2
                go_meet
                case rel => exact ⟨_, (true), (by first | rfl | (simp; done) | (simp [*]; done)), H', ⟨by first | omega | exact Nat.le_refl _⟩, ⟨by repeat (first | (with_reducible first | exact HB.out | apply below_alloc | apply pw_below_drewN | apply below_drew1) | exact HB.out)⟩⟩
              · rw [if_neg c45] at H
                have c45b0 : (a1 == 32) = false := beq_eq_false_iff_ne.mpr c45
                have c45b1 : (a1 != 32) = true := bne_iff_ne.mpr c45
                by_cases c46 : a1 = 9
                · rw [if_pos c46] at H
                  have c46b0 : (a1 == 9) = true := beq_iff_eq.mpr c46
                  have c46b1 : (a1 != 9) = false := bne_eq_false_iff_eq.mpr c46
                  clear c46
                  have H' := Aside0.mk H
                  clear H
                  go_wp2
                  go_meet
                  case rel => exact ⟨_, (true), (by first | rfl | (simp; done) | (simp [*]; done)), H', ⟨by first | omega | exact Nat.le_refl _⟩, ⟨by repeat (first | (with_reducible first | exact HB.out | apply below_alloc | apply pw_below_drewN | apply below_drew1) | exact HB.out)⟩⟩
                · rw [if_neg c46] at H
                  have c46b0 : (a1 == 9) = false := beq_eq_false_iff_ne.mpr c46
                  have c46b1 : (a1 != 9) = true := bne_iff_ne.mpr c46
                  by_cases c47 : a1 = 10
                  · rw [if_pos c47] at H
                    have c47b0 : (a1 == 10) = true := beq_iff_eq.mpr c47
                    have c47b1 : (a1 != 10) = false := bne_eq_false_iff_eq.mpr c47
                    clear c47
                    have H' := Aside0.mk H
                    clear H
                    go_wp2
                    go_meet
                    case rel => exact ⟨_, (true), (by first | rfl | (simp; done) | (simp [*]; done)), H', ⟨by first | omega | exact Nat.le_refl _⟩, ⟨by repeat (first | (with_reducible first | exact HB.out | apply below_alloc | apply pw_below_drewN | apply below_drew1) | exact HB.out)⟩⟩
                  · rw [if_neg c47] at H
                    have c47b0 : (a1 == 10) = false := beq_eq_false_iff_ne.mpr c47
                    have c47b1 : (a1 != 10) = true := bne_iff_ne.mpr c47
                    have H' := Aside0.mk H
                    clear H
                    go_wp2
                    go_meet
                    case rel => exact ⟨_, ((a1 == 13)), (by first | rfl | (simp; done) | (simp [*]; done)), H', ⟨by first | omega | exact Nat.le_refl _⟩, ⟨by repeat (first | (with_reducible first | exact HB.out | apply below_alloc | apply pw_below_drewN | apply below_drew1) | exact HB.out)⟩⟩
      case rest =>
        clear HC8
        try clear c1
        try clear c2
        try clear p2
        try clear c3
        try clear c4
        try clear c5
        try clear c6
        try clear c6b0
        try clear c6b1
        try clear c8
        try clear c10
        try clear c10b0
        try clear c11
        try clear c11b0
        try clear c12
        try clear c12b0
        try clear c13
        try clear c13b0
        try clear c14
        try clear c14b0
        try clear c15
        try clear c15b0
        try clear c16
        try clear c16b0
        try clear c16b1
        try clear c17
        try clear c17b0
        try clear c17b1
        try clear c18
        try clear c18b0
        try clear c18b1
        try clear c19
        try clear c19b0
        try clear c19b1
        try clear c20
        try clear c20b0
        try clear c20b1
        try clear c21
        try clear c21b0
        try clear c21b1
        try clear c22
        try clear c22b0
        try clear c23
        try clear c23b0
        try clear c24
        try clear c24b0
        try clear c24b1
        try clear c25
        try clear c25b0
        try clear c25b1
        try clear c26
        try clear c26b0
        try clear c26b1
        try clear c27
        try clear c27b0
        try clear c27b1
        try clear c28
        try clear c28b0
        try clear c28b1
        try clear c29
        try clear c29b0
        try clear c29b1
        try clear c30
        try clear c30b0
        try clear c31
        try clear c31b0
        try clear c32
        try clear c32b0
        try clear c33
        try clear c33b0
        try clear c34
        try clear c34b0
        try clear c34b1
        try clear c35
        try clear c35b0
        try clear c35b1
        try clear c36
        try clear c36b0
        try clear c36b1
        try clear c37
        try clear c37b0
        try clear c37b1
        try clear c38
        try clear c38b0
        try clear c38b1
        try clear c39
        try clear c39b0
        try clear c39b1
        try clear c40
        try clear c40b0
        try clear c41
        try clear c41b0
        try clear c42
        try clear c42b0
        try clear c42b1
        try clear c43
        try clear c43b0
        try clear c43b1
        try clear c44
        try clear c44b0
        try clear c44b1
        try clear c45
        try clear c45b0
        try clear c45b1
        try clear c46
        try clear c46b0
        try clear c46b1
        try clear c47
        try clear c47b0
        try clear c47b1
        obtain ⟨kq, x61_7, rfl, HA, HJ7, HB⟩ := hcut
        cases kq with
        | zero => exact absurd HA.out (by simp [withelaw6_LexFaults.j0])
        | succ kj7 =>
          have H := HA.out
          clear HA
          simp only [withelaw6_LexFaults.j0] at H
          by_cases c48 : x61_7 = true
          · subst c48
            have H1 : (some true) = some r := by rw [if_pos rfl] at H; exact H
            clear H
            have H := H1
            clear H1
            obtain rfl := Option.some.inj H
            go_wp2
            go_ret
            exact ⟨by first | rfl | (simp [errW_none, errW_some] <;> rfl) | (simp [*, errW_none, errW_some] <;> rfl), by repeat (first | (with_reducible first | exact HB.out | apply below_alloc | apply pw_below_drewN | apply below_drew1) | exact HB.out)⟩
          · replace c48 := Bool.eq_false_iff.mpr c48
            subst c48
            have H1 : ((some (([123, 125, 40, 41, 59, 44, 58, 61, 60, 43, 45, 47] : List Int) : List Int)).bind fun y319 => (withelaw6_LexFaults.l0 kj7 l0 a1 a2 y319 (y319.length : Int) 0)) = some r := by rw [if_neg (show ¬ (false = true) by decide)] at H; exact H
            clear H
            have H := H1
            clear H1
            obtain ⟨y319, hy319⟩ : ∃ y_ : List Int, y_ = (([123, 125, 40, 41, 59, 44, 58, 61, 60, 43, 45, 47] : List Int)) := ⟨_, rfl⟩
            replace H : (withelaw6_LexFaults.l0 kj7 l0 a1 a2 y319 (y319.length : Int) 0) = some r := by first | (rw [hy319]; with_reducible exact H) | (have H2_ := (Option.bind_some _ _).symm.trans H; rw [hy319]; with_reducible exact H2_) | (have H2_ := (Option.bind_some _ _).symm.trans H; with_reducible exact H2_) | with_reducible exact H | (rw [hy319]; exact H) | exact H
            have Ny319 := Aside0.mk hy319
            clear hy319
            have H' := Aside0.mk H
            clear H
            have kc := fun (w : World) (C : Array Value) (n c : Nat) => Lib.run_convert_bytes_const (P := Try.prog) w 32 5 C n c Try.underlying32 Try.underlying5
            go_wp2
            try go_simp
            have hlen_ : y319.length = 12 := by rw [Ny319.out]; rfl
            obtain ⟨Ao51, hAo_⟩ : ∃ A : Option Addr, A = some ⟨wc.heap.size, 0, none⟩ := ⟨_, rfl⟩
            obtain ⟨co51, hco_⟩ : ∃ c : Nat, c = 12 := ⟨_, rfl⟩
            have hs1_ : Value.slice (some ⟨wc.heap.size, 0, none⟩) 12 12 = Value.slice Ao51 y319.length co51 := by rw [hlen_, hAo_, hco_]
            have hs2_ : Value.int .i64 12 = Value.int .i64 (y319.length : Int) := by rw [hlen_]; rfl
            simp only [hs1_, hs2_]
            have HO321 := Aside0.mk (C_lit_const wc y319 5 _ (12, 13) (by rw [Ny319.out]) (by rw [hlen_]; decide))
            rw [← hAo_] at HO321
            clear hs1_ hs2_ hAo_ hco_ hlen_ kc
            go_loopg [65] kj7 (fun kq v65 w' => ∃ (x65_2 : Int), v65 = .int .i64 x65_2 ∧ Aside0 (withelaw6_LexFaults.l0 kq l0 a1 a2 y319 (y319.length : Int) x65_2 = some r) ∧ Aside0 (kq ≤ kj7) ∧ Aside0 (Kd.C (Kd.int .u8) w' Ao51 y319.length y319) ∧ Aside0 (Below w.heap.size w w'))
            case atStart => exact ⟨(0), (by first | rfl | (simp; done) | (simp [*]; done)), H', ⟨Nat.le_refl _⟩, ⟨HO321.out⟩, ⟨by repeat (first | (with_reducible first | exact HB.out | apply below_alloc | apply pw_below_drewN | apply below_drew1) | exact HB.out)⟩⟩
            case round =>
              clear H'
              try clear c1
              try clear c2
              try clear p2
              try clear c3
              try clear c4
              try clear c5
              try clear c6
              try clear c6b0
              try clear c6b1
              try clear c8
              try clear c10
              try clear c10b0
              try clear c11
              try clear c11b0
              try clear c12
              try clear c12b0
              try clear c13
              try clear c13b0
              try clear c14
              try clear c14b0
              try clear c15
              try clear c15b0
              try clear c16
              try clear c16b0
              try clear c16b1
              try clear c17
              try clear c17b0
              try clear c17b1
              try clear c18
              try clear c18b0
              try clear c18b1
              try clear c19
              try clear c19b0
              try clear c19b1
              try clear c20
              try clear c20b0
              try clear c20b1
              try clear c21
              try clear c21b0
              try clear c21b1
              try clear c22
              try clear c22b0
              try clear c23
              try clear c23b0
              try clear c24
              try clear c24b0
              try clear c24b1
              try clear c25
              try clear c25b0
              try clear c25b1
              try clear c26
              try clear c26b0
              try clear c26b1
              try clear c27
              try clear c27b0
              try clear c27b1
              try clear c28
              try clear c28b0
              try clear c28b1
              try clear c29
              try clear c29b0
              try clear c29b1
              try clear c30
              try clear c30b0
              try clear c31
              try clear c31b0
              try clear c32
              try clear c32b0
              try clear c33
              try clear c33b0
              try clear c34
              try clear c34b0
              try clear c34b1
              try clear c35
              try clear c35b0
              try clear c35b1
              try clear c36
              try clear c36b0
              try clear c36b1
              try clear c37
              try clear c37b0
              try clear c37b1
              try clear c38
              try clear c38b0
              try clear c38b1
              try clear c39
              try clear c39b0
              try clear c39b1
              try clear c40
              try clear c40b0
              try clear c41
              try clear c41b0
              try clear c42
              try clear c42b0
              try clear c42b1
              try clear c43
              try clear c43b0
              try clear c43b1
              try clear c44
              try clear c44b0
              try clear c44b1
              try clear c45
              try clear c45b0
              try clear c45b1
              try clear c46
              try clear c46b0
              try clear c46b1
              try clear c47
              try clear c47b0
              try clear c47b1
              try clear c48
              try clear p2
              obtain ⟨x65_2, rfl, HA, HK2, HO_63, HB⟩ := hrel
              cases gk with
              | zero => exact absurd HA.out (by simp [withelaw6_LexFaults.l0])
              | succ k2 =>
                have H := HA.out
                clear HA
                simp only [withelaw6_LexFaults.l0] at H
                by_cases c52 : x65_2 < (y319.length : Int)
                · rw [if_pos c52] at H
                  have c52b0 : decide (x65_2 < (y319.length : Int)) = true := decide_eq_true c52
                  clear c52
                  by_cases c53 : 0 ≤ x65_2
                  · rw [if_pos c53] at H
                    have c53b0 : decide (0 ≤ x65_2) = true := decide_eq_true c53
                    clear c53
                    by_cases c54 : x65_2 < (y319.length : Int)
                    · rw [if_pos c54] at H
                      have c54b0 : decide (x65_2 < (y319.length : Int)) = true := decide_eq_true c54
                      clear c54
                      by_cases c55 : a1 = (rd y319 x65_2)
                      · rw [if_pos c55] at H
                        have c55b0 : (a1 == (rd y319 x65_2)) = true := beq_iff_eq.mpr c55
                        have c55b1 : (a1 != (rd y319 x65_2)) = false := bne_eq_false_iff_eq.mpr c55
                        clear c55
                        obtain rfl := Option.some.inj H
                        have p322 : 0 ≤ (x65_2 : Int) := of_decide_eq_true (by first | (with_reducible assumption) | assumption)
                        have q322 : x65_2 < (y319.length : Int) := of_decide_eq_true (by first | (with_reducible assumption) | assumption)
                        obtain ⟨ad322, e322, hx322_0⟩ := Kd.at_int HO_63.out x65_2 p322 q322
                        cases e322
                        replace p322 := eq_true p322
                        replace q322 := eq_true q322
                        go_wp2
                        go_ret
                        exact ⟨by first | rfl | (simp [errW_none, errW_some] <;> rfl) | (simp [*, errW_none, errW_some] <;> rfl), by repeat (first | (with_reducible first | exact HB.out | apply below_alloc | apply pw_below_drewN | apply below_drew1) | exact HB.out)⟩
                      · rw [if_neg c55] at H
                        have c55b0 : (a1 == (rd y319 x65_2)) = false := beq_eq_false_iff_ne.mpr c55
                        have c55b1 : (a1 != (rd y319 x65_2)) = true := bne_iff_ne.mpr c55
                        have H' := Aside0.mk H
                        clear H
                        have p322 : 0 ≤ (x65_2 : Int) := of_decide_eq_true (by first | (with_reducible assumption) | assumption)
                        have q322 : x65_2 < (y319.length : Int) := of_decide_eq_true (by first | (with_reducible assumption) | assumption)
                        obtain ⟨ad322, e322, hx322_0⟩ := Kd.at_int HO_63.out x65_2 p322 q322
                        cases e322
                        replace p322 := eq_true p322
                        replace q322 := eq_true q322
                        go_wp2
                        go_roundg k2
                        case measure => have := HJ7.out; have := HK2.out; omega
                        case rel => exact ⟨(wrap64 (x65_2 + 1)), (by first | rfl | (simp; done) | (simp [*]; done)), H', ⟨by have := HJ7.out; have := HK2.out; omega⟩, ⟨by (with_reducible repeat (first | apply Kd.C_alloc | apply Kd.C_drewN | apply Kd.C_drew)); exact HO_63.out⟩, ⟨by repeat (first | (with_reducible first | exact HB.out | apply below_alloc | apply pw_below_drewN | apply below_drew1) | exact HB.out)⟩⟩
                    · rw [if_neg c54] at H
                      exact absurd H (by simp)
                  · rw [if_neg c53] at H
                    exact absurd H (by simp)
                · rw [if_neg c52] at H
                  have c52b0 : decide (x65_2 < (y319.length : Int)) = false := decide_eq_false c52
                  clear c52
                  by_cases c56 : (wrap64 ((wrap64 ((l0.length : Int) / 2)) + 1)) = 0
                  · rw [if_pos c56] at H
                    exact absurd H (by simp)
                  · rw [if_neg c56] at H
                    have c56b0 : ((wrap64 ((wrap64 ((l0.length : Int) / 2)) + 1)) == 0) = false := beq_eq_false_iff_ne.mpr c56
                    have c56b1 : ((wrap64 ((wrap64 ((l0.length : Int) / 2)) + 1)) != 0) = true := bne_iff_ne.mpr c56
                    have H' := Aside0.mk H
                    clear H
                    go_wp2
                    try go_simp
                    go_loopg [9, 10, 12] k2 (fun kq v9 v10 v12 w' => ∃ (x9_3 : ByteArray) (x10_3 : Int) (x12_3 : Int), v9 = .string x9_3 ∧ v10 = .int .i64 x10_3 ∧ v12 = .int .i64 x12_3 ∧ Aside0 (withelaw6_LexFaults.l1 kq l0 a1 x9_3 x10_3 (Int.tmod (wrap64 (a2)) (wrap64 ((wrap64 ((l0.length : Int) / 2)) + 1))) x12_3 = some r) ∧ Aside0 (kq ≤ k2) ∧ Aside0 (Below w.heap.size w w'))
                    case atStart => exact ⟨((⟨#[]⟩ : ByteArray)), ((-1)), (0), (by first | rfl | (simp; done) | (simp [*]; done)), (by first | rfl | (simp; done) | (simp [*]; done)), (by first | rfl | (simp; done) | (simp [*]; done)), H', ⟨Nat.le_refl _⟩, ⟨by repeat (first | (with_reducible first | exact HB.out | apply below_alloc | apply pw_below_drewN | apply below_drew1) | exact HB.out)⟩⟩
                    case round =>
                      clear H'
                      try clear c1
                      try clear c2
                      try clear p2
                      try clear c3
                      try clear p3
                      try clear q3
                      try clear hx3
                      try clear c4
                      try clear c5
                      try clear c6
                      try clear c6b0
                      try clear c6b1
                      try clear p6
                      try clear c8
                      try clear c10
                      try clear c10b0
                      try clear c11
                      try clear c11b0
                      try clear c12
                      try clear c12b0
                      try clear c13
                      try clear c13b0
                      try clear c14
                      try clear c14b0
                      try clear c15
                      try clear c15b0
                      try clear c16
                      try clear c16b0
                      try clear c16b1
                      try clear c17
                      try clear c17b0
                      try clear c17b1
                      try clear c18
                      try clear c18b0
                      try clear c18b1
                      try clear c19
                      try clear c19b0
                      try clear c19b1
                      try clear c20
                      try clear c20b0
                      try clear c20b1
                      try clear c21
                      try clear c21b0
                      try clear c21b1
                      try clear c22
                      try clear c22b0
                      try clear c23
                      try clear c23b0
                      try clear c24
                      try clear c24b0
                      try clear c24b1
                      try clear c25
                      try clear c25b0
                      try clear c25b1
                      try clear c26
                      try clear c26b0
                      try clear c26b1
                      try clear c27
                      try clear c27b0
                      try clear c27b1
                      try clear c28
                      try clear c28b0
                      try clear c28b1
                      try clear c29
                      try clear c29b0
                      try clear c29b1
                      try clear c30
                      try clear c30b0
                      try clear c31
                      try clear c31b0
                      try clear c32
                      try clear c32b0
                      try clear p32
                      try clear q32
                      try clear hx32
                      try clear c33
                      try clear c33b0
                      try clear c34
                      try clear c34b0
                      try clear c34b1
                      try clear c35
                      try clear c35b0
                      try clear c35b1
                      try clear c36
                      try clear c36b0
                      try clear c36b1
                      try clear c37
                      try clear c37b0
                      try clear c37b1
                      try clear c38
                      try clear c38b0
                      try clear c38b1
                      try clear c39
                      try clear c39b0
                      try clear c39b1
                      try clear c40
                      try clear c40b0
                      try clear c41
                      try clear c41b0
                      try clear c42
                      try clear c42b0
                      try clear c42b1
                      try clear c43
                      try clear c43b0
                      try clear c43b1
                      try clear c44
                      try clear c44b0
                      try clear c44b1
                      try clear c45
                      try clear c45b0
                      try clear c45b1
                      try clear c46
                      try clear c46b0
                      try clear c46b1
                      try clear c47
                      try clear c47b0
                      try clear c47b1
                      try clear c48
                      try clear c52
                      try clear c52b0
                      try clear c53
                      try clear c53b0
                      try clear c54
                      try clear c54b0
                      try clear c55
                      try clear c55b0
                      try clear c55b1
                      try clear c56
                      try clear c56b0
                      try clear c56b1
                      try clear hx322_0
                      try clear p2
                      try clear p322
                      try clear q322
                      obtain ⟨x9_3, x10_3, x12_3, rfl, rfl, rfl, HA, HK3, HB⟩ := hrel
                      cases gk with
                      | zero => exact absurd HA.out (by simp [withelaw6_LexFaults.l1])
                      | succ k3 =>
                        have H := HA.out
                        clear HA
                        simp only [withelaw6_LexFaults.l1] at H
                        by_cases c57 : (wrap64 (x12_3 + 1)) < (l0.length : Int)
                        · rw [if_pos c57] at H
                          have c57b0 : decide ((wrap64 (x12_3 + 1)) < (l0.length : Int)) = true := decide_eq_true c57
                          clear c57
                          by_cases c58 : (wrap64 (Int.tdiv x12_3 2)) = (Int.tmod (wrap64 (a2)) (wrap64 ((wrap64 ((l0.length : Int) / 2)) + 1)))
                          · rw [if_pos c58] at H
                            have c58b0 : ((wrap64 (Int.tdiv x12_3 2)) == (Int.tmod (wrap64 (a2)) (wrap64 ((wrap64 ((l0.length : Int) / 2)) + 1)))) = true := beq_iff_eq.mpr c58
                            have c58b1 : ((wrap64 (Int.tdiv x12_3 2)) != (Int.tmod (wrap64 (a2)) (wrap64 ((wrap64 ((l0.length : Int) / 2)) + 1)))) = false := bne_eq_false_iff_eq.mpr c58
                            clear c58
                            obtain ⟨y323, hy323⟩ : ∃ y_ : List Int, y_ = (([a1] : List Int)) := ⟨_, rfl⟩
                            replace H : (if x9_3.size + (strOfNums y323).size ≤ 9223372036854775807 then (if (x9_3 ++ (strOfNums y323)).size + 1 ≤ 9223372036854775807 then (if 0 ≤ x12_3 then (if x12_3 < (l0.length : Int) then (if 0 ≤ (wrap64 (x12_3 + 1)) then ((withelaw6_piece.f k3 (rd l0 x12_3) (rd l0 (wrap64 (x12_3 + 1)))).bind fun bt328 => (if ((x9_3 ++ (strOfNums y323)) ++ (⟨#[32]⟩ : ByteArray)).size + bt328.1.size ≤ 9223372036854775807 then (if (((x9_3 ++ (strOfNums y323)) ++ (⟨#[32]⟩ : ByteArray)) ++ bt328.1).size + 1 ≤ 9223372036854775807 then (withelaw6_LexFaults.l1 k3 l0 a1 ((((x9_3 ++ (strOfNums y323)) ++ (⟨#[32]⟩ : ByteArray)) ++ bt328.1) ++ (⟨#[32]⟩ : ByteArray)) (x9_3.size : Int) (Int.tmod (wrap64 (a2)) (wrap64 ((wrap64 ((l0.length : Int) / 2)) + 1))) (wrap64 (x12_3 + 2))) else (none)) else (none))) else (none)) else (none)) else (none)) else (none)) else (none)) = some r := by first | (rw [hy323]; with_reducible exact H) | (have H2_ := (Option.bind_some _ _).symm.trans H; rw [hy323]; with_reducible exact H2_) | (have H2_ := (Option.bind_some _ _).symm.trans H; with_reducible exact H2_) | with_reducible exact H | (rw [hy323]; exact H) | exact H
                            have Ny323 := Aside0.mk hy323
                            clear hy323
                            by_cases c59 : x9_3.size + (strOfNums y323).size ≤ 9223372036854775807
                            · rw [if_pos c59] at H
                              have c59b0 := eq_true c59
                              have c59b1 : decide (x9_3.size + (strOfNums y323).size ≤ 9223372036854775807) = true := decide_eq_true c59
                              try have c59b2 : (9223372036854775807 < x9_3.size + (strOfNums y323).size) = False := eq_false (Nat.not_lt.2 c59)
                              by_cases c60 : (x9_3 ++ (strOfNums y323)).size + 1 ≤ 9223372036854775807
                              · rw [if_pos c60] at H
                                have c60b0 := eq_true c60
                                have c60b1 : decide ((x9_3 ++ (strOfNums y323)).size + 1 ≤ 9223372036854775807) = true := decide_eq_true c60
                                try (have c60b1s := c60b1; simp only [ByteArray.size_append] at c60b1s)
                                try have c60b2 : (9223372036854775807 < (x9_3 ++ (strOfNums y323)).size + 1) = False := eq_false (Nat.not_lt.2 c60)
                                try (have c60b2s := c60b2; simp only [ByteArray.size_append] at c60b2s)
                                by_cases c61 : 0 ≤ x12_3
                                · rw [if_pos c61] at H
                                  have c61b0 : decide (0 ≤ x12_3) = true := decide_eq_true c61
                                  clear c61
                                  by_cases c62 : x12_3 < (l0.length : Int)
                                  · rw [if_pos c62] at H
                                    have c62b0 : decide (x12_3 < (l0.length : Int)) = true := decide_eq_true c62
                                    clear c62
                                    obtain ⟨ji63, hji63⟩ : ∃ j_ : Int, (wrap64 (x12_3 + 1)) = j_ := ⟨_, rfl⟩
                                    replace H : (if 0 ≤ (ji63) then ((withelaw6_piece.f k3 (rd l0 x12_3) (rd l0 (ji63))).bind fun bt328 => (if ((x9_3 ++ (strOfNums y323)) ++ (⟨#[32]⟩ : ByteArray)).size + bt328.1.size ≤ 9223372036854775807 then (if (((x9_3 ++ (strOfNums y323)) ++ (⟨#[32]⟩ : ByteArray)) ++ bt328.1).size + 1 ≤ 9223372036854775807 then (withelaw6_LexFaults.l1 k3 l0 a1 ((((x9_3 ++ (strOfNums y323)) ++ (⟨#[32]⟩ : ByteArray)) ++ bt328.1) ++ (⟨#[32]⟩ : ByteArray)) (x9_3.size : Int) (Int.tmod (wrap64 (a2)) (wrap64 ((wrap64 ((l0.length : Int) / 2)) + 1))) (wrap64 (x12_3 + 2))) else (none)) else (none))) else (none)) = some r := by first | (rw [hji63] at H; exact H) | (simp only [hji63] at H ⊢; exact H)
                                    (try rw [hji63] at c57b0)
                                    have hji63w : (IntKind.i64.wrap (x12_3 + 1)) = ji63 := (i64_w _).trans hji63
                                    by_cases c64 : 0 ≤ (ji63)
                                    · rw [if_pos c64] at H
                                      have c64b0 : decide (0 ≤ (ji63)) = true := decide_eq_true c64
                                      clear c64
                                      replace H := Option.bind_eq_some_iff.mp H
                                      obtain ⟨⟨t328, t329⟩, A650, H⟩ := H
                                      replace H : (if ((x9_3 ++ (strOfNums y323)) ++ (⟨#[32]⟩ : ByteArray)).size + t328.size ≤ 9223372036854775807 then (if (((x9_3 ++ (strOfNums y323)) ++ (⟨#[32]⟩ : ByteArray)) ++ t328).size + 1 ≤ 9223372036854775807 then (withelaw6_LexFaults.l1 k3 l0 a1 ((((x9_3 ++ (strOfNums y323)) ++ (⟨#[32]⟩ : ByteArray)) ++ t328) ++ (⟨#[32]⟩ : ByteArray)) (x9_3.size : Int) (Int.tmod (wrap64 (a2)) (wrap64 ((wrap64 ((l0.length : Int) / 2)) + 1))) (wrap64 (x12_3 + 2))) else (none)) else (none)) = some r := H
                                      have A65 := Aside0.mk A650
                                      clear A650
                                      by_cases c66 : ((x9_3 ++ (strOfNums y323)) ++ (⟨#[32]⟩ : ByteArray)).size + t328.size ≤ 9223372036854775807
                                      · rw [if_pos c66] at H
                                        have c66b0 := eq_true c66
                                        have c66b1 : decide (((x9_3 ++ (strOfNums y323)) ++ (⟨#[32]⟩ : ByteArray)).size + t328.size ≤ 9223372036854775807) = true := decide_eq_true c66
                                        try (have c66b1s := c66b1; simp only [ByteArray.size_append, show (⟨#[32]⟩ : ByteArray).size = 1 from rfl] at c66b1s)
                                        try have c66b2 : (9223372036854775807 < ((x9_3 ++ (strOfNums y323)) ++ (⟨#[32]⟩ : ByteArray)).size + t328.size) = False := eq_false (Nat.not_lt.2 c66)
                                        try (have c66b2s := c66b2; simp only [ByteArray.size_append, show (⟨#[32]⟩ : ByteArray).size = 1 from rfl] at c66b2s)
                                        by_cases c67 : (((x9_3 ++ (strOfNums y323)) ++ (⟨#[32]⟩ : ByteArray)) ++ t328).size + 1 ≤ 9223372036854775807
                                        · rw [if_pos c67] at H
                                          have c67b0 := eq_true c67
                                          have c67b1 : decide ((((x9_3 ++ (strOfNums y323)) ++ (⟨#[32]⟩ : ByteArray)) ++ t328).size + 1 ≤ 9223372036854775807) = true := decide_eq_true c67
                                          try (have c67b1s := c67b1; simp only [ByteArray.size_append, show (⟨#[32]⟩ : ByteArray).size = 1 from rfl] at c67b1s)
                                          try have c67b2 : (9223372036854775807 < (((x9_3 ++ (strOfNums y323)) ++ (⟨#[32]⟩ : ByteArray)) ++ t328).size + 1) = False := eq_false (Nat.not_lt.2 c67)
                                          try (have c67b2s := c67b2; simp only [ByteArray.size_append, show (⟨#[32]⟩ : ByteArray).size = 1 from rfl] at c67b2s)
                                          have H' := Aside0.mk H
                                          clear H
                                          try go_wp2_with (first | ((with_reducible refine gate_dst (N := 95) rfl ?_); refine Kd.R_lit (Kd.int .u8) _ 5 ?hg (N := 95) ?hd (xs := ([a1] : List Int)) (inner := [.int .u8 a1]) (ok := fun _ => True) (okp := fun _ => True) ?hr ?hp (fun _ hk => hk) trivial (Below.refl _ _) (Nat.le_refl _) (by simp) ?_; (case hd => rfl); (case hg => rfl); (case hr => first | (go_simp; done) | (go_simp; rfl)); (case hp => exact (Reps.one (show Kd.M (Kd.int .u8) _ _ _ a1 [.int .u8 a1] from rfl) (Reps.none _ _))); intro v324 w68 ho69 hb hg_ hnew_; clear hg_ hnew_; (first | rw [← Ny323.out] at ho69 | (simp only [Int.reduceToNat] at ho69; rw [← Ny323.out] at ho69)); have n0_ := Aside0.mk (Kd.R_lower ho69 (below_size (by repeat (first | (with_reducible first | exact HB.out | apply below_alloc | apply pw_below_drewN | apply below_drew1) | exact HB.out)))); have n1_ := Aside0.mk (below_step (by repeat (first | (with_reducible first | exact HB.out | apply below_alloc | apply pw_below_drewN | apply below_drew1) | exact HB.out)) hb); clear HB; have HO325 := n0_; have HB := n1_; clear n0_ n1_; clear hb ho69; have hcv70 := own_string (P := Try.prog) Try.underlying32 Try.underlying5 Try.underlying9 (Kd.own_of_R HO325.out)))
                                          have n0_ := Aside0.mk (Kd.R_drew HO325.out)
                                          have n1_ := Aside0.mk (below_drew1 HB.out)
                                          clear HO325
                                          clear HB
                                          have HO325 := n0_
                                          have HB := n1_
                                          clear n0_ n1_
                                          have p326 : 0 ≤ (x12_3 : Int) := of_decide_eq_true (by first | (with_reducible assumption) | assumption)
                                          have q326 : x12_3 < (l0.length : Int) := of_decide_eq_true (by first | (with_reducible assumption) | assumption)
                                          obtain ⟨ad326, e326, hx326_0⟩ := Kd.at_int HR0.out x12_3 p326 q326
                                          have hw326_0 := hx326_0
                                          cases e326
                                          replace hx326_0 := (HB.out.cell (World.block_lt_of_cell? w _ hx326_0)).trans hx326_0
                                          replace p326 := eq_true p326
                                          replace q326 := eq_true q326
                                          have p327 : 0 ≤ ((ji63) : Int) := of_decide_eq_true (by first | (with_reducible assumption) | assumption)
                                          have q327 : (ji63) < (l0.length : Int) := of_decide_eq_true (by first | (with_reducible assumption) | assumption)
                                          obtain ⟨ad327, e327, hx327_0⟩ := Kd.at_int HR0.out (ji63) p327 q327
                                          have hw327_0 := hx327_0
                                          obtain rfl : ad326 = ad327 := (by injection e327)
                                          replace hx327_0 := (HB.out.cell (World.block_lt_of_cell? w _ hx327_0)).trans hx327_0
                                          replace p327 := eq_true p327
                                          replace q327 := eq_true q327
                                          refine start_ (n := 15) (S := fun w' => w'.cell? (ad326.add (x12_3).toNat) = some (.int .u8 (rd l0 x12_3)) ∧ w'.cell? (ad326.add ((ji63)).toNat) = some (.int .u8 (rd l0 (ji63)))) (ds := []) #[false, false, false, false, false, false, false, false, false, false, false, false, false, false, false] (by kernel_rfl) rfl rfl ⟨((HB.out.cell (World.block_lt_of_cell? w _ hw326_0)).trans hw326_0), ((HB.out.cell (World.block_lt_of_cell? w _ hw327_0)).trans hw327_0)⟩ (fun hHeld => ?_); refine with_tabW withelaw6_LexFaults.tab21 withelaw6_LexFaults.bits21 (fun HT_ HW_ => ?_)
                                          generalize w68.drew = w71 at HO325 HB hx326_0 hx327_0 hHeld ⊢
                                          refine pure_ (i := 0) (N := some 100) (v := ?_) (a' := ?_) #[true, false, false, false, false, false, false, false, false, false, false, false, false, false, false] rfl rfl (any_of HT_.out (by kernel_rfl)) (fun _ _ _ h => h) (Or.inl ⟨by rfl, ?_⟩) ?_ ?_
                                          rotate_left
                                          · intro w'
                                            go_simp
                                            with_reducible rfl
                                          rotate_left
                                          · simp only [Act.put, List.setIfInBounds_toArray, List.set_cons_zero, List.set_cons_succ, i64_w, i32_w]
                                            rfl
                                          refine pure_ (i := 1) (N := some 101) (v := ?_) (a' := ?_) #[true, true, false, false, false, false, false, false, false, false, false, false, false, false, false] rfl rfl (any_of HT_.out (by kernel_rfl)) (fun _ _ _ h => h) (Or.inl ⟨by rfl, ?_⟩) ?_ ?_
                                          rotate_left
                                          · intro w'
                                            go_simp
                                            with_reducible rfl
                                          rotate_left
                                          · simp only [Act.put, List.setIfInBounds_toArray, List.set_cons_zero, List.set_cons_succ, i64_w, i32_w]
                                            rfl
                                          refine pure_ (i := 2) (N := some 102) (v := ?_) (a' := ?_) #[true, true, true, false, false, false, false, false, false, false, false, false, false, false, false] rfl rfl (any_of HT_.out (by kernel_rfl)) (fun _ _ _ h => h) (Or.inl ⟨by rfl, ?_⟩) ?_ ?_
                                          rotate_left
                                          · intro w'
                                            go_simp
                                            with_reducible rfl
                                          rotate_left
                                          · simp only [Act.put, List.setIfInBounds_toArray, List.set_cons_zero, List.set_cons_succ, i64_w, i32_w]
                                            rfl
                                          refine pure_ (i := 4) (N := some 104) (v := ?_) (a' := ?_) #[true, true, true, false, true, false, false, false, false, false, false, false, false, false, false] rfl rfl (any_of HT_.out (by kernel_rfl)) (fun _ _ _ h => h) (Or.inl ⟨by rfl, ?_⟩) ?_ ?_
                                          rotate_left
                                          · intro w'
                                            go_simp
                                            with_reducible rfl
                                          rotate_left
                                          · simp only [Act.put, List.setIfInBounds_toArray, List.set_cons_zero, List.set_cons_succ, i64_w, i32_w]
                                            rfl
                                          refine pure_ (i := 5) (N := some 105) (v := ?_) (a' := ?_) #[true, true, true, false, true, true, false, false, false, false, false, false, false, false, false] rfl rfl (any_of HT_.out (by kernel_rfl)) (fun _ _ _ h => h) (Or.inl ⟨by rfl, ?_⟩) ?_ ?_
                                          rotate_left
                                          · intro w'
                                            go_simp
                                            with_reducible rfl
                                          rotate_left
                                          · simp only [Act.put, List.setIfInBounds_toArray, List.set_cons_zero, List.set_cons_succ, i64_w, i32_w]
                                            rfl
                                          refine pure_ (i := 6) (N := some 106) (v := ?_) (a' := ?_) #[true, true, true, false, true, true, true, false, false, false, false, false, false, false, false] rfl rfl (any_of HT_.out (by kernel_rfl)) (fun _ _ _ h => h) (Or.inl ⟨by rfl, ?_⟩) ?_ ?_
                                          rotate_left
                                          · intro w'
                                            go_simp
                                            with_reducible rfl
                                          rotate_left
                                          · simp only [Act.put, List.setIfInBounds_toArray, List.set_cons_zero, List.set_cons_succ, i64_w, i32_w]
                                            rfl
                                          refine pure_ (i := 7) (N := some 107) (v := ?_) (a' := ?_) #[true, true, true, false, true, true, true, true, false, false, false, false, false, false, false] rfl rfl (any_of HT_.out (by kernel_rfl)) (fun _ _ _ h => h) (Or.inl ⟨by rfl, ?_⟩) ?_ ?_
                                          rotate_left
                                          · intro w'
                                            go_simp
                                            with_reducible rfl
                                          rotate_left
                                          · simp only [Act.put, List.setIfInBounds_toArray, List.set_cons_zero, List.set_cons_succ, i64_w, i32_w]
                                            rfl
                                          refine take_ (i := 3) (N := some 103) (v := ?_) (a' := ?_) #[true, true, true, true, true, true, true, true, false, false, false, false, false, false, false] rfl rfl (take_ofW HT_.out HW_.out (by kernel_rfl)) (fun _ _ _ h => h) (Or.inl ⟨by rfl, ?_⟩) hHeld ?_ ?_
                                          rotate_left
                                          · rintro w' ⟨s0, s1⟩
                                            go_simp
                                            with_reducible rfl
                                          rotate_left
                                          · simp only [Act.put, List.setIfInBounds_toArray, List.set_cons_zero, List.set_cons_succ, i64_w, i32_w]
                                            rfl
                                          refine take_ (i := 8) (N := some 108) (v := ?_) (a' := ?_) #[true, true, true, true, true, true, true, true, true, false, false, false, false, false, false] rfl rfl (take_ofW HT_.out HW_.out (by kernel_rfl)) (fun _ _ _ h => h) (Or.inl ⟨by rfl, ?_⟩) hHeld ?_ ?_
                                          rotate_left
                                          · rintro w' ⟨s0, s1⟩
                                            go_simp
                                            with_reducible rfl
                                          rotate_left
                                          · simp only [Act.put, List.setIfInBounds_toArray, List.set_cons_zero, List.set_cons_succ, i64_w, i32_w]
                                            rfl
                                          refine one_ (i := 9) (N := some 109) #[true, true, true, true, true, true, true, true, true, true, false, false, false, false, false] rfl rfl (one_of HT_.out (by kernel_rfl)) (by decide) (fun K hK => ?_)
                                          refine goes_ Try.func16 (by kernel_rfl) rfl #[.int .u8 (rd l0 x12_3), .int .u8 (rd l0 (ji63))] (by rfl) rfl rfl (by (try simp only [List.map_toArray, List.map_cons, List.map_nil]); first | done | (simp only [hji63]; rfl) | rfl | (simp only [List.length_drop, List.length_take]; rfl)) ?_
                                          with_reducible refine (withelaw6_piece.calls k3 (rd l0 x12_3) (rd l0 (ji63)) t328 t329 _ A65.out).mono ?_
                                          rintro e w72 ⟨rfl, hb⟩
                                          refine ⟨_, rfl, ?_⟩
                                          have n0_ := Aside0.mk (Kd.R_below (by (with_reducible repeat (first | apply Kd.R_alloc | apply Kd.R_drewN | apply Kd.R_drew)); exact HO325.out) hb)
                                          have n1_ := Aside0.mk (below_step (by repeat (first | (with_reducible first | exact HB.out | apply below_alloc | apply pw_below_drewN | apply below_drew1) | exact HB.out)) hb)
                                          clear HO325
                                          clear HB
                                          have HO325 := n0_
                                          have HB := n1_
                                          clear n0_ n1_
                                          (try clear hb)
                                          (try clear hb2)
                                          (try clear hk)
                                          (try clear hi)
                                          refine hK.out _ _ ⟨((HB.out.cell (World.block_lt_of_cell? w _ hw326_0)).trans hw326_0), ((HB.out.cell (World.block_lt_of_cell? w _ hw327_0)).trans hw327_0)⟩ (fun hHeld => ?_)
                                          clear hK K
                                          refine norm_ (a' := ?_) ?_ ?_
                                          rotate_left
                                          · show Act.put _ (some 109) _ = _
                                            simp only [Act.put, List.setIfInBounds_toArray, List.set_cons_zero, List.set_cons_succ, i64_w, i32_w]
                                            rfl
                                          refine pure_ (i := 10) (N := some 99) (v := ?_) (a' := ?_) #[true, true, true, true, true, true, true, true, true, true, true, false, false, false, false] rfl rfl (any_of HT_.out (by kernel_rfl)) (fun _ _ _ h => h) (Or.inl ⟨by rfl, ?_⟩) ?_ ?_
                                          rotate_left
                                          · intro w'
                                            go_simp
                                            with_reducible rfl
                                          rotate_left
                                          · simp only [Act.put, List.setIfInBounds_toArray, List.set_cons_zero, List.set_cons_succ, i64_w, i32_w]
                                            rfl
                                          refine pure_ (i := 11) (N := some 110) (v := ?_) (a' := ?_) #[true, true, true, true, true, true, true, true, true, true, true, true, false, false, false] rfl rfl (any_of HT_.out (by kernel_rfl)) (fun _ _ _ h => h) (Or.inl ⟨by rfl, ?_⟩) ?_ ?_
                                          rotate_left
                                          · intro w'
                                            go_simp
                                            with_reducible rfl
                                          rotate_left
                                          · simp only [Act.put, List.setIfInBounds_toArray, List.set_cons_zero, List.set_cons_succ, i64_w, i32_w]
                                            rfl
                                          refine pure_ (i := 12) (N := some 111) (v := ?_) (a' := ?_) #[true, true, true, true, true, true, true, true, true, true, true, true, true, false, false] rfl rfl (any_of HT_.out (by kernel_rfl)) (fun _ _ _ h => h) (Or.inl ⟨by rfl, ?_⟩) ?_ ?_
                                          rotate_left
                                          · intro w'
                                            go_simp
                                            with_reducible rfl
                                          rotate_left
                                          · simp only [Act.put, List.setIfInBounds_toArray, List.set_cons_zero, List.set_cons_succ, i64_w, i32_w]
                                            rfl
                                          refine pure_ (i := 13) (N := some 13) (v := ?_) (a' := ?_) #[true, true, true, true, true, true, true, true, true, true, true, true, true, true, false] rfl rfl (any_of HT_.out (by kernel_rfl)) (fun _ _ _ h => h) (Or.inl ⟨by rfl, ?_⟩) ?_ ?_
                                          rotate_left
                                          · intro w'
                                            go_simp
                                            with_reducible rfl
                                          rotate_left
                                          · simp only [Act.put, List.setIfInBounds_toArray, List.set_cons_zero, List.set_cons_succ, i64_w, i32_w]
                                            rfl
                                          refine pure_ (i := 14) (N := some 14) (v := ?_) (a' := ?_) #[true, true, true, true, true, true, true, true, true, true, true, true, true, true, true] rfl rfl (any_of HT_.out (by kernel_rfl)) (fun _ _ _ h => h) (Or.inl ⟨by rfl, ?_⟩) ?_ ?_
                                          rotate_left
                                          · intro w'
                                            go_simp
                                            with_reducible rfl
                                          rotate_left
                                          · simp only [Act.put, List.setIfInBounds_toArray, List.set_cons_zero, List.set_cons_succ, i64_w, i32_w]
                                            rfl
                                          refine done_ (done_of HT_.out (by kernel_rfl)) ?_
                                          try go_wp2
                                          go_roundg k3
                                          case measure => have := HJ7.out; have := HK2.out; have := HK3.out; omega
                                          case rel => exact ⟨((((x9_3 ++ (strOfNums y323)) ++ (⟨#[32]⟩ : ByteArray)) ++ t328) ++ (⟨#[32]⟩ : ByteArray)), ((x9_3.size : Int)), (wrap64 (x12_3 + 2)), (by first | rfl | (simp; done) | (simp [*]; done)), (by first | rfl | (simp; done) | (simp [*]; done)), (by first | rfl | (simp; done) | (simp [*]; done)), H', ⟨by have := HJ7.out; have := HK2.out; have := HK3.out; omega⟩, ⟨by repeat (first | (with_reducible first | exact HB.out | apply below_alloc | apply pw_below_drewN | apply below_drew1) | exact HB.out)⟩⟩
                                        · rw [if_neg c67] at H
                                          exact absurd H (by simp)
                                      · rw [if_neg c66] at H
                                        exact absurd H (by simp)
                                    · rw [if_neg c64] at H
                                      exact absurd H (by simp)
                                  · rw [if_neg c62] at H
                                    exact absurd H (by simp)
                                · rw [if_neg c61] at H
                                  exact absurd H (by simp)
                              · rw [if_neg c60] at H
                                exact absurd H (by simp)
                            · rw [if_neg c59] at H
                              exact absurd H (by simp)
                          · rw [if_neg c58] at H
                            have c58b0 : ((wrap64 (Int.tdiv x12_3 2)) == (Int.tmod (wrap64 (a2)) (wrap64 ((wrap64 ((l0.length : Int) / 2)) + 1)))) = false := beq_eq_false_iff_ne.mpr c58
                            have c58b1 : ((wrap64 (Int.tdiv x12_3 2)) != (Int.tmod (wrap64 (a2)) (wrap64 ((wrap64 ((l0.length : Int) / 2)) + 1)))) = true := bne_iff_ne.mpr c58
                            by_cases c73 : 0 ≤ x12_3
                            · rw [if_pos c73] at H
                              have c73b0 : decide (0 ≤ x12_3) = true := decide_eq_true c73
                              clear c73
                              by_cases c74 : x12_3 < (l0.length : Int)
                              · rw [if_pos c74] at H
                                have c74b0 : decide (x12_3 < (l0.length : Int)) = true := decide_eq_true c74
                                clear c74
                                obtain ⟨ji75, hji75⟩ : ∃ j_ : Int, (wrap64 (x12_3 + 1)) = j_ := ⟨_, rfl⟩
                                replace H : (if 0 ≤ (ji75) then ((withelaw6_piece.f k3 (rd l0 x12_3) (rd l0 (ji75))).bind fun bt332 => (if x9_3.size + bt332.1.size ≤ 9223372036854775807 then (if (x9_3 ++ bt332.1).size + 1 ≤ 9223372036854775807 then (withelaw6_LexFaults.l1 k3 l0 a1 ((x9_3 ++ bt332.1) ++ (⟨#[32]⟩ : ByteArray)) x10_3 (Int.tmod (wrap64 (a2)) (wrap64 ((wrap64 ((l0.length : Int) / 2)) + 1))) (wrap64 (x12_3 + 2))) else (none)) else (none))) else (none)) = some r := by first | (rw [hji75] at H; exact H) | (simp only [hji75] at H ⊢; exact H)
                                (try rw [hji75] at c57b0)
                                have hji75w : (IntKind.i64.wrap (x12_3 + 1)) = ji75 := (i64_w _).trans hji75
                                by_cases c76 : 0 ≤ (ji75)
                                · rw [if_pos c76] at H
                                  have c76b0 : decide (0 ≤ (ji75)) = true := decide_eq_true c76
                                  clear c76
                                  replace H := Option.bind_eq_some_iff.mp H
                                  obtain ⟨⟨t332, t333⟩, A770, H⟩ := H
                                  replace H : (if x9_3.size + t332.size ≤ 9223372036854775807 then (if (x9_3 ++ t332).size + 1 ≤ 9223372036854775807 then (withelaw6_LexFaults.l1 k3 l0 a1 ((x9_3 ++ t332) ++ (⟨#[32]⟩ : ByteArray)) x10_3 (Int.tmod (wrap64 (a2)) (wrap64 ((wrap64 ((l0.length : Int) / 2)) + 1))) (wrap64 (x12_3 + 2))) else (none)) else (none)) = some r := H
                                  have A77 := Aside0.mk A770
                                  clear A770
                                  by_cases c78 : x9_3.size + t332.size ≤ 9223372036854775807
                                  · rw [if_pos c78] at H
                                    have c78b0 := eq_true c78
                                    have c78b1 : decide (x9_3.size + t332.size ≤ 9223372036854775807) = true := decide_eq_true c78
                                    try have c78b2 : (9223372036854775807 < x9_3.size + t332.size) = False := eq_false (Nat.not_lt.2 c78)
                                    by_cases c79 : (x9_3 ++ t332).size + 1 ≤ 9223372036854775807
                                    · rw [if_pos c79] at H
                                      have c79b0 := eq_true c79
                                      have c79b1 : decide ((x9_3 ++ t332).size + 1 ≤ 9223372036854775807) = true := decide_eq_true c79
                                      try (have c79b1s := c79b1; simp only [ByteArray.size_append] at c79b1s)
                                      try have c79b2 : (9223372036854775807 < (x9_3 ++ t332).size + 1) = False := eq_false (Nat.not_lt.2 c79)
                                      try (have c79b2s := c79b2; simp only [ByteArray.size_append] at c79b2s)
                                      have H' := Aside0.mk H
                                      clear H
                                      try go_wp2
                                      have n0_ := Aside0.mk (below_drew1 HB.out)
                                      clear HB
                                      have HB := n0_
                                      clear n0_
                                      have p330 : 0 ≤ (x12_3 : Int) := of_decide_eq_true (by first | (with_reducible assumption) | assumption)
                                      have q330 : x12_3 < (l0.length : Int) := of_decide_eq_true (by first | (with_reducible assumption) | assumption)
                                      obtain ⟨ad330, e330, hx330_0⟩ := Kd.at_int HR0.out x12_3 p330 q330
                                      have hw330_0 := hx330_0
                                      cases e330
                                      replace hx330_0 := (HB.out.cell (World.block_lt_of_cell? w _ hx330_0)).trans hx330_0
                                      replace p330 := eq_true p330
                                      replace q330 := eq_true q330
                                      have p331 : 0 ≤ ((ji75) : Int) := of_decide_eq_true (by first | (with_reducible assumption) | assumption)
                                      have q331 : (ji75) < (l0.length : Int) := of_decide_eq_true (by first | (with_reducible assumption) | assumption)
                                      obtain ⟨ad331, e331, hx331_0⟩ := Kd.at_int HR0.out (ji75) p331 q331
                                      have hw331_0 := hx331_0
                                      obtain rfl : ad330 = ad331 := (by injection e331)
                                      replace hx331_0 := (HB.out.cell (World.block_lt_of_cell? w _ hx331_0)).trans hx331_0
                                      replace p331 := eq_true p331
                                      replace q331 := eq_true q331
                                      refine start_ (n := 15) (S := fun w' => w'.cell? (ad330.add (x12_3).toNat) = some (.int .u8 (rd l0 x12_3)) ∧ w'.cell? (ad330.add ((ji75)).toNat) = some (.int .u8 (rd l0 (ji75)))) (ds := []) #[false, false, false, false, false, false, false, false, false, false, false, false, false, false, false] (by kernel_rfl) rfl rfl ⟨((HB.out.cell (World.block_lt_of_cell? w _ hw330_0)).trans hw330_0), ((HB.out.cell (World.block_lt_of_cell? w _ hw331_0)).trans hw331_0)⟩ (fun hHeld => ?_); refine with_tabW withelaw6_LexFaults.tab21 withelaw6_LexFaults.bits21 (fun HT_ HW_ => ?_)
                                      generalize wr.drew = w80 at HB hx330_0 hx331_0 hHeld ⊢
                                      refine pure_ (i := 0) (N := some 100) (v := ?_) (a' := ?_) #[true, false, false, false, false, false, false, false, false, false, false, false, false, false, false] rfl rfl (any_of HT_.out (by kernel_rfl)) (fun _ _ _ h => h) (Or.inl ⟨by rfl, ?_⟩) ?_ ?_
                                      rotate_left
                                      · intro w'
                                        go_simp
                                        with_reducible rfl
                                      rotate_left
                                      · simp only [Act.put, List.setIfInBounds_toArray, List.set_cons_zero, List.set_cons_succ, i64_w, i32_w]
                                        rfl
                                      refine pure_ (i := 1) (N := some 101) (v := ?_) (a' := ?_) #[true, true, false, false, false, false, false, false, false, false, false, false, false, false, false] rfl rfl (any_of HT_.out (by kernel_rfl)) (fun _ _ _ h => h) (Or.inl ⟨by rfl, ?_⟩) ?_ ?_
                                      rotate_left
                                      · intro w'
                                        go_simp
                                        with_reducible rfl
                                      rotate_left
                                      · simp only [Act.put, List.setIfInBounds_toArray, List.set_cons_zero, List.set_cons_succ, i64_w, i32_w]
                                        rfl
                                      refine pure_ (i := 2) (N := some 102) (v := ?_) (a' := ?_) #[true, true, true, false, false, false, false, false, false, false, false, false, false, false, false] rfl rfl (any_of HT_.out (by kernel_rfl)) (fun _ _ _ h => h) (Or.inl ⟨by rfl, ?_⟩) ?_ ?_
                                      rotate_left
                                      · intro w'
                                        go_simp
                                        with_reducible rfl
                                      rotate_left
                                      · simp only [Act.put, List.setIfInBounds_toArray, List.set_cons_zero, List.set_cons_succ, i64_w, i32_w]
                                        rfl
                                      refine pure_ (i := 4) (N := some 104) (v := ?_) (a' := ?_) #[true, true, true, false, true, false, false, false, false, false, false, false, false, false, false] rfl rfl (any_of HT_.out (by kernel_rfl)) (fun _ _ _ h => h) (Or.inl ⟨by rfl, ?_⟩) ?_ ?_
                                      rotate_left
                                      · intro w'
                                        go_simp
                                        with_reducible rfl
                                      rotate_left
                                      · simp only [Act.put, List.setIfInBounds_toArray, List.set_cons_zero, List.set_cons_succ, i64_w, i32_w]
                                        rfl
                                      refine pure_ (i := 5) (N := some 105) (v := ?_) (a' := ?_) #[true, true, true, false, true, true, false, false, false, false, false, false, false, false, false] rfl rfl (any_of HT_.out (by kernel_rfl)) (fun _ _ _ h => h) (Or.inl ⟨by rfl, ?_⟩) ?_ ?_
                                      rotate_left
                                      · intro w'
                                        go_simp
                                        with_reducible rfl
                                      rotate_left
                                      · simp only [Act.put, List.setIfInBounds_toArray, List.set_cons_zero, List.set_cons_succ, i64_w, i32_w]
                                        rfl
                                      refine pure_ (i := 6) (N := some 106) (v := ?_) (a' := ?_) #[true, true, true, false, true, true, true, false, false, false, false, false, false, false, false] rfl rfl (any_of HT_.out (by kernel_rfl)) (fun _ _ _ h => h) (Or.inl ⟨by rfl, ?_⟩) ?_ ?_
                                      rotate_left
                                      · intro w'
                                        go_simp
                                        with_reducible rfl
                                      rotate_left
                                      · simp only [Act.put, List.setIfInBounds_toArray, List.set_cons_zero, List.set_cons_succ, i64_w, i32_w]
                                        rfl
                                      refine pure_ (i := 7) (N := some 107) (v := ?_) (a' := ?_) #[true, true, true, false, true, true, true, true, false, false, false, false, false, false, false] rfl rfl (any_of HT_.out (by kernel_rfl)) (fun _ _ _ h => h) (Or.inl ⟨by rfl, ?_⟩) ?_ ?_
                                      rotate_left
                                      · intro w'
                                        go_simp
                                        with_reducible rfl
                                      rotate_left
                                      · simp only [Act.put, List.setIfInBounds_toArray, List.set_cons_zero, List.set_cons_succ, i64_w, i32_w]
                                        rfl
                                      refine take_ (i := 3) (N := some 103) (v := ?_) (a' := ?_) #[true, true, true, true, true, true, true, true, false, false, false, false, false, false, false] rfl rfl (take_ofW HT_.out HW_.out (by kernel_rfl)) (fun _ _ _ h => h) (Or.inl ⟨by rfl, ?_⟩) hHeld ?_ ?_
                                      rotate_left
                                      · rintro w' ⟨s0, s1⟩
                                        go_simp
                                        with_reducible rfl
                                      rotate_left
                                      · simp only [Act.put, List.setIfInBounds_toArray, List.set_cons_zero, List.set_cons_succ, i64_w, i32_w]
                                        rfl
                                      refine take_ (i := 8) (N := some 108) (v := ?_) (a' := ?_) #[true, true, true, true, true, true, true, true, true, false, false, false, false, false, false] rfl rfl (take_ofW HT_.out HW_.out (by kernel_rfl)) (fun _ _ _ h => h) (Or.inl ⟨by rfl, ?_⟩) hHeld ?_ ?_
                                      rotate_left
                                      · rintro w' ⟨s0, s1⟩
                                        go_simp
                                        with_reducible rfl
                                      rotate_left
                                      · simp only [Act.put, List.setIfInBounds_toArray, List.set_cons_zero, List.set_cons_succ, i64_w, i32_w]
                                        rfl
                                      refine one_ (i := 9) (N := some 109) #[true, true, true, true, true, true, true, true, true, true, false, false, false, false, false] rfl rfl (one_of HT_.out (by kernel_rfl)) (by decide) (fun K hK => ?_)
                                      refine goes_ Try.func16 (by kernel_rfl) rfl #[.int .u8 (rd l0 x12_3), .int .u8 (rd l0 (ji75))] (by rfl) rfl rfl (by (try simp only [List.map_toArray, List.map_cons, List.map_nil]); first | done | (simp only [hji75]; rfl) | rfl | (simp only [List.length_drop, List.length_take]; rfl)) ?_
                                      with_reducible refine (withelaw6_piece.calls k3 (rd l0 x12_3) (rd l0 (ji75)) t332 t333 _ A77.out).mono ?_
                                      rintro e w81 ⟨rfl, hb⟩
                                      refine ⟨_, rfl, ?_⟩
                                      have n0_ := Aside0.mk (below_step (by repeat (first | (with_reducible first | exact HB.out | apply below_alloc | apply pw_below_drewN | apply below_drew1) | exact HB.out)) hb)
                                      clear HB
                                      have HB := n0_
                                      clear n0_
                                      (try clear hb)
                                      (try clear hb2)
                                      (try clear hk)
                                      (try clear hi)
                                      refine hK.out _ _ ⟨((HB.out.cell (World.block_lt_of_cell? w _ hw330_0)).trans hw330_0), ((HB.out.cell (World.block_lt_of_cell? w _ hw331_0)).trans hw331_0)⟩ (fun hHeld => ?_)
                                      clear hK K
                                      refine norm_ (a' := ?_) ?_ ?_
                                      rotate_left
                                      · show Act.put _ (some 109) _ = _
                                        simp only [Act.put, List.setIfInBounds_toArray, List.set_cons_zero, List.set_cons_succ, i64_w, i32_w]
                                        rfl
                                      refine pure_ (i := 10) (N := some 99) (v := ?_) (a' := ?_) #[true, true, true, true, true, true, true, true, true, true, true, false, false, false, false] rfl rfl (any_of HT_.out (by kernel_rfl)) (fun _ _ _ h => h) (Or.inl ⟨by rfl, ?_⟩) ?_ ?_
                                      rotate_left
                                      · intro w'
                                        go_simp
                                        with_reducible rfl
                                      rotate_left
                                      · simp only [Act.put, List.setIfInBounds_toArray, List.set_cons_zero, List.set_cons_succ, i64_w, i32_w]
                                        rfl
                                      refine pure_ (i := 11) (N := some 110) (v := ?_) (a' := ?_) #[true, true, true, true, true, true, true, true, true, true, true, true, false, false, false] rfl rfl (any_of HT_.out (by kernel_rfl)) (fun _ _ _ h => h) (Or.inl ⟨by rfl, ?_⟩) ?_ ?_
                                      rotate_left
                                      · intro w'
                                        go_simp
                                        with_reducible rfl
                                      rotate_left
                                      · simp only [Act.put, List.setIfInBounds_toArray, List.set_cons_zero, List.set_cons_succ, i64_w, i32_w]
                                        rfl
                                      refine pure_ (i := 12) (N := some 111) (v := ?_) (a' := ?_) #[true, true, true, true, true, true, true, true, true, true, true, true, true, false, false] rfl rfl (any_of HT_.out (by kernel_rfl)) (fun _ _ _ h => h) (Or.inl ⟨by rfl, ?_⟩) ?_ ?_
                                      rotate_left
                                      · intro w'
                                        go_simp
                                        with_reducible rfl
                                      rotate_left
                                      · simp only [Act.put, List.setIfInBounds_toArray, List.set_cons_zero, List.set_cons_succ, i64_w, i32_w]
                                        rfl
                                      refine pure_ (i := 13) (N := some 13) (v := ?_) (a' := ?_) #[true, true, true, true, true, true, true, true, true, true, true, true, true, true, false] rfl rfl (any_of HT_.out (by kernel_rfl)) (fun _ _ _ h => h) (Or.inl ⟨by rfl, ?_⟩) ?_ ?_
                                      rotate_left
                                      · intro w'
                                        go_simp
                                        with_reducible rfl
                                      rotate_left
                                      · simp only [Act.put, List.setIfInBounds_toArray, List.set_cons_zero, List.set_cons_succ, i64_w, i32_w]
                                        rfl
                                      refine pure_ (i := 14) (N := some 14) (v := ?_) (a' := ?_) #[true, true, true, true, true, true, true, true, true, true, true, true, true, true, true] rfl rfl (any_of HT_.out (by kernel_rfl)) (fun _ _ _ h => h) (Or.inl ⟨by rfl, ?_⟩) ?_ ?_
                                      rotate_left
                                      · intro w'
                                        go_simp
                                        with_reducible rfl
                                      rotate_left
                                      · simp only [Act.put, List.setIfInBounds_toArray, List.set_cons_zero, List.set_cons_succ, i64_w, i32_w]
                                        rfl
                                      refine done_ (done_of HT_.out (by kernel_rfl)) ?_
                                      try go_wp2
                                      go_roundg k3
                                      case measure => have := HJ7.out; have := HK2.out; have := HK3.out; omega
                                      case rel => exact ⟨((x9_3 ++ t332) ++ (⟨#[32]⟩ : ByteArray)), (x10_3), (wrap64 (x12_3 + 2)), (by first | rfl | (simp; done) | (simp [*]; done)), (by first | rfl | (simp; done) | (simp [*]; done)), (by first | rfl | (simp; done) | (simp [*]; done)), H', ⟨by have := HJ7.out; have := HK2.out; have := HK3.out; omega⟩, ⟨by repeat (first | (with_reducible first | exact HB.out | apply below_alloc | apply pw_below_drewN | apply below_drew1) | exact HB.out)⟩⟩
                                    · rw [if_neg c79] at H
                                      exact absurd H (by simp)
                                  · rw [if_neg c78] at H
                                    exact absurd H (by simp)
                                · rw [if_neg c76] at H
                                  exact absurd H (by simp)
                              · rw [if_neg c74] at H
                                exact absurd H (by simp)
                            · rw [if_neg c73] at H
                              exact absurd H (by simp)
                        · rw [if_neg c57] at H
                          have c57b0 : decide ((wrap64 (x12_3 + 1)) < (l0.length : Int)) = false := decide_eq_false c57
                          clear c57
                          by_cases c82 : x10_3 < 0
                          · rw [if_pos c82] at H
                            have c82b0 : decide (x10_3 < 0) = true := decide_eq_true c82
                            clear c82
                            obtain ⟨y334, hy334⟩ : ∃ y_ : List Int, y_ = (([a1] : List Int)) := ⟨_, rfl⟩
                            replace H : (if x9_3.size + (strOfNums y334).size ≤ 9223372036854775807 then ((lex_Lex.f k3 (x9_3 ++ (strOfNums y334))).bind fun bt337 => (if 2 + (x9_3 ++ (strOfNums y334)).size ≤ 9223372036854775807 then ((lex_Lex.f k3 ((⟨#[47, 47]⟩ : ByteArray) ++ (x9_3 ++ (strOfNums y334)))).bind fun bt343 => (if (bt337.2.1 == 2 && (bt337.2.2 == (x9_3.size : Int))) = true then (some (bt343.2.1 == 0 && (bt343.2.2 == 0))) else (none))) else (none))) else (none)) = some r := by first | (rw [hy334]; with_reducible exact H) | (have H2_ := (Option.bind_some _ _).symm.trans H; rw [hy334]; with_reducible exact H2_) | (have H2_ := (Option.bind_some _ _).symm.trans H; with_reducible exact H2_) | with_reducible exact H | (rw [hy334]; exact H) | exact H
                            have Ny334 := Aside0.mk hy334
                            clear hy334
                            by_cases c83 : x9_3.size + (strOfNums y334).size ≤ 9223372036854775807
                            · rw [if_pos c83] at H
                              have c83b0 := eq_true c83
                              have c83b1 : decide (x9_3.size + (strOfNums y334).size ≤ 9223372036854775807) = true := decide_eq_true c83
                              try have c83b2 : (9223372036854775807 < x9_3.size + (strOfNums y334).size) = False := eq_false (Nat.not_lt.2 c83)
                              replace H := Option.bind_eq_some_iff.mp H
                              obtain ⟨⟨t337, t340, t341⟩, A840, H⟩ := H
                              replace H : (if 2 + (x9_3 ++ (strOfNums y334)).size ≤ 9223372036854775807 then ((lex_Lex.f k3 ((⟨#[47, 47]⟩ : ByteArray) ++ (x9_3 ++ (strOfNums y334)))).bind fun bt343 => (if (t340 == 2 && (t341 == (x9_3.size : Int))) = true then (some (bt343.2.1 == 0 && (bt343.2.2 == 0))) else (none))) else (none)) = some r := H
                              have A84 := Aside0.mk A840
                              clear A840
                              by_cases c85 : 2 + (x9_3 ++ (strOfNums y334)).size ≤ 9223372036854775807
                              · rw [if_pos c85] at H
                                have c85b0 := eq_true c85
                                have c85b1 : decide (2 + (x9_3 ++ (strOfNums y334)).size ≤ 9223372036854775807) = true := decide_eq_true c85
                                try (have c85b1s := c85b1; simp only [ByteArray.size_append] at c85b1s)
                                try have c85b2 : (9223372036854775807 < 2 + (x9_3 ++ (strOfNums y334)).size) = False := eq_false (Nat.not_lt.2 c85)
                                try (have c85b2s := c85b2; simp only [ByteArray.size_append] at c85b2s)
                                replace H := Option.bind_eq_some_iff.mp H
                                obtain ⟨⟨t343, t346, t347⟩, A860, H⟩ := H
                                replace H : (if (t340 == 2 && (t341 == (x9_3.size : Int))) = true then (some (t346 == 0 && (t347 == 0))) else (none)) = some r := H
                                have A86 := Aside0.mk A860
                                clear A860
                                by_cases c87 : (t340 == 2 && (t341 == (x9_3.size : Int))) = true
                                · rw [if_pos c87] at H
                                  have c87b0 : (t340 == 2 && (t341 == (x9_3.size : Int))) = true := c87
                                  (try (have c87b1 : decide (t340 = 2 && (t341 == (x9_3.size : Int))) = true := by simpa using c87))
                                  (try (have c87b2 : (t340 == 2 && (t341 == (x9_3.size : Int))) = true := by simpa using c87))
                                  clear c87
                                  obtain rfl := Option.some.inj H
                                  go_wp2_with (first | ((with_reducible refine gate_dst (N := 122) rfl ?_); refine Kd.R_lit (Kd.int .u8) _ 5 ?hg (N := 122) ?hd (xs := ([a1] : List Int)) (inner := [.int .u8 a1]) (ok := fun _ => True) (okp := fun _ => True) ?hr ?hp (fun _ hk => hk) trivial (Below.refl _ _) (Nat.le_refl _) (by simp) ?_; (case hd => rfl); (case hg => rfl); (case hr => first | (go_simp; done) | (go_simp; rfl)); (case hp => exact (Reps.one (show Kd.M (Kd.int .u8) _ _ _ a1 [.int .u8 a1] from rfl) (Reps.none _ _))); intro v335 w88 ho89 hb hg_ hnew_; clear hg_ hnew_; (first | rw [← Ny334.out] at ho89 | (simp only [Int.reduceToNat] at ho89; rw [← Ny334.out] at ho89)); have n0_ := Aside0.mk (Kd.R_lower ho89 (below_size (by repeat (first | (with_reducible first | exact HB.out | apply below_alloc | apply pw_below_drewN | apply below_drew1) | exact HB.out)))); have n1_ := Aside0.mk (below_step (by repeat (first | (with_reducible first | exact HB.out | apply below_alloc | apply pw_below_drewN | apply below_drew1) | exact HB.out)) hb); clear HB; have HO336 := n0_; have HB := n1_; clear n0_ n1_; clear hb ho89; have hcv90 := own_string (P := Try.prog) Try.underlying32 Try.underlying5 Try.underlying9 (Kd.own_of_R HO336.out)) | ((with_reducible refine gate_callee (f := 9) rfl ?_); refine goesL_ (some 127) rfl rfl Try.func9 (by kernel_rfl) rfl #[.string (x9_3 ++ (strOfNums y334))] rfl (by (try simp only [List.map_toArray, List.map_cons, List.map_nil]); first | done | rfl | (simp only [List.length_drop, List.length_take]; rfl)) ?_; (with_reducible refine (lex_Lex.calls k3 (x9_3 ++ (strOfNums y334)) t337 t340 t341 _ A84.out).mono ?_); rintro e w91 ⟨v338, rfl, ho0, hb⟩; refine ⟨_, rfl, ?_⟩; have n0_ := Aside0.mk (Kd.R_below (by (with_reducible repeat (first | apply Kd.R_alloc | apply Kd.R_drewN | apply Kd.R_drew)); exact HO336.out) hb); have n1_ := Aside0.mk (Kd.R_lower ho0 (below_size (by repeat (first | (with_reducible first | exact HB.out | apply below_alloc | apply pw_below_drewN | apply below_drew1) | exact HB.out)))); have n2_ := Aside0.mk (below_step (by repeat (first | (with_reducible first | exact HB.out | apply below_alloc | apply pw_below_drewN | apply below_drew1) | exact HB.out)) hb); clear HO336; clear HB; have HO336 := n0_; have HO339 := n1_; have HB := n2_; clear n0_ n1_ n2_; (try clear hb); (try clear hb2); (try clear hk); (try clear hi); (try clear ho0)) | ((with_reducible refine gate_dst (N := 16) rfl ?_); refine box_event ?hg (N := 16) ?hd (cs := #[.int .i64 0, .int .i64 0]) (t := 26) ?hr ?_; (case hd => rfl); (case hg => rfl); (case hr => first | (go_simp; done) | (go_simp; rfl)); intro gb342 hg w92 hbox hb; have n0_ := Aside0.mk (Kd.R_below (by (with_reducible repeat (first | apply Kd.R_alloc | apply Kd.R_drewN | apply Kd.R_drew)); exact HO336.out) hb); have n1_ := Aside0.mk (Kd.R_below (by (with_reducible repeat (first | apply Kd.R_alloc | apply Kd.R_drewN | apply Kd.R_drew)); exact HO339.out) hb); have n2_ := Aside0.mk (below_step (by repeat (first | (with_reducible first | exact HB.out | apply below_alloc | apply pw_below_drewN | apply below_drew1) | exact HB.out)) hb); have n3_ := Aside0.mk (hbox); have n4_ := Aside0.mk ((by rw [hg]; exact (below_size (by repeat (first | (with_reducible first | exact HB.out | apply below_alloc | apply pw_below_drewN | apply below_drew1) | exact HB.out))) : w.heap.size ≤ gb342)); have n5_ := Aside0.mk ((by rw [hg]; exact (below_size (by repeat (first | (with_reducible first | exact HB.out | apply below_alloc | apply pw_below_drewN | apply below_drew1) | exact HB.out))) : w.heap.size ≤ gb342)); clear HO336; clear HO339; clear HB; have HO336 := n0_; have HO339 := n1_; have HB := n2_; have BK342 := n3_; have GW342 := n4_; have GE342 := n5_; clear n0_ n1_ n2_ n3_ n4_ n5_; clear hb hbox hg; have hcz93_0 : w92.cell? ⟨gb342, 0, none⟩ = some (.int .i64 0) := (blk_cell BK342.out 0).trans rfl; have hcz93_1 : w92.cell? ⟨gb342, 1, none⟩ = some (.int .i64 0) := (blk_cell BK342.out 1).trans rfl; have hfz93_0 := blk_frozen BK342.out 0; have hfz93_1 := blk_frozen BK342.out 1) | ((with_reducible refine gate_callee (f := 9) rfl ?_); refine goesL_ (some 133) rfl rfl Try.func9 (by kernel_rfl) rfl #[.string ((⟨#[47, 47]⟩ : ByteArray) ++ (x9_3 ++ (strOfNums y334)))] rfl (by (try simp only [List.map_toArray, List.map_cons, List.map_nil]); first | done | rfl | (simp only [List.length_drop, List.length_take]; rfl)) ?_; (with_reducible refine (lex_Lex.calls k3 ((⟨#[47, 47]⟩ : ByteArray) ++ (x9_3 ++ (strOfNums y334))) t343 t346 t347 _ A86.out).mono ?_); rintro e w94 ⟨v344, rfl, ho0, hb⟩; refine ⟨_, rfl, ?_⟩; have n0_ := Aside0.mk (Kd.R_below (by (with_reducible repeat (first | apply Kd.R_alloc | apply Kd.R_drewN | apply Kd.R_drew)); exact (Kd.R_mono (Kd.R_far (p := ⟨gb342, 1, none⟩) (Kd.R_far (p := ⟨gb342, 0, none⟩) (Kd.R_types HO336.out BK342.out (by decide)) (fun _ hk => hk.2) (.int .i64 t340)) (fun _ hk => hk.2) (.int .i64 t341)) (fun _ h_ => h_.1))) hb); have n1_ := Aside0.mk (Kd.R_elder' (by (with_reducible repeat (first | apply Kd.R_alloc | apply Kd.R_drewN | apply Kd.R_drew)); exact (Kd.R_mono (Kd.R_far (p := ⟨gb342, 1, none⟩) (Kd.R_far (p := ⟨gb342, 0, none⟩) (Kd.R_types HO339.out BK342.out (by decide)) (fun _ hk => hk.2) (.int .i64 t340)) (fun _ hk => hk.2) (.int .i64 t341)) (fun _ h_ => h_.1))) (Kd.R_base ho0) hb); have n2_ := Aside0.mk (Kd.R_lower (Kd.R_new' ho0 (Kd.R_lt (by (with_reducible repeat (first | apply Kd.R_alloc | apply Kd.R_drewN | apply Kd.R_drew)); exact (Kd.R_mono (Kd.R_far (p := ⟨gb342, 1, none⟩) (Kd.R_far (p := ⟨gb342, 0, none⟩) (Kd.R_types HO339.out BK342.out (by decide)) (fun _ hk => hk.2) (.int .i64 t340)) (fun _ hk => hk.2) (.int .i64 t341)) (fun _ h_ => h_.1))))) (below_size (by repeat (first | (with_reducible first | exact HB.out | apply below_alloc | apply pw_below_drewN | apply below_drew1 | refine below_set ?_ GE342.out) | exact HB.out)))); have n3_ := Aside0.mk (blk_below (g := gb342) (o := .cells #[.int .i64 t340, .int .i64 t341] 26 (0, 0)) (by (with_reducible repeat (first | refine blk_drewN ?_ _ | refine blk_drew ?_ | refine blk_alloc ?_ _)); refine blk_put (cs := #[.int .i64 t340, .int .i64 0]) ?_ 1 _ rfl; (with_reducible repeat (first | refine blk_drewN ?_ _ | refine blk_drew ?_ | refine blk_alloc ?_ _)); refine blk_put (cs := #[.int .i64 0, .int .i64 0]) ?_ 0 _ rfl; (with_reducible repeat (first | refine blk_drewN ?_ _ | refine blk_drew ?_ | refine blk_alloc ?_ _)); exact BK342.out) hb); have n4_ := Aside0.mk (below_step (by repeat (first | (with_reducible first | exact HB.out | apply below_alloc | apply pw_below_drewN | apply below_drew1 | refine below_set ?_ GE342.out) | exact HB.out)) hb); clear HO336; clear HO339; clear BK342; clear HB; have HO336 := n0_; have HO339 := n1_; have HO345 := n2_; have BK342 := n3_; have HB := n4_; clear n0_ n1_ n2_ n3_ n4_; (try clear hb); (try clear hb2); (try clear hk); (try clear hi); (try clear ho0)) | ((with_reducible refine gate_dst (N := 18) rfl ?_); refine box_event ?hg (N := 18) ?hd (cs := #[.int .i64 0, .int .i64 0]) (t := 26) ?hr ?_; (case hd => rfl); (case hg => rfl); (case hr => first | (go_simp; done) | (go_simp; rfl)); intro gb348 hg w95 hbox hb; have n0_ := Aside0.mk (Kd.R_below (by (with_reducible repeat (first | apply Kd.R_alloc | apply Kd.R_drewN | apply Kd.R_drew)); exact HO336.out) hb); have n1_ := Aside0.mk (Kd.R_below (by (with_reducible repeat (first | apply Kd.R_alloc | apply Kd.R_drewN | apply Kd.R_drew)); exact HO339.out) hb); have n2_ := Aside0.mk (Kd.R_below (by (with_reducible repeat (first | apply Kd.R_alloc | apply Kd.R_drewN | apply Kd.R_drew)); exact HO345.out) hb); have n3_ := Aside0.mk (blk_below (g := gb342) (o := .cells #[.int .i64 t340, .int .i64 t341] 26 (0, 0)) (by (with_reducible repeat (first | refine blk_drewN ?_ _ | refine blk_drew ?_ | refine blk_alloc ?_ _)); exact BK342.out) hb); have n4_ := Aside0.mk (below_step (by repeat (first | (with_reducible first | exact HB.out | apply below_alloc | apply pw_below_drewN | apply below_drew1 | refine below_set ?_ GE342.out) | exact HB.out)) hb); have n5_ := Aside0.mk (hbox); have n6_ := Aside0.mk ((by rw [hg]; exact (below_size (by repeat (first | (with_reducible first | exact HB.out | apply below_alloc | apply pw_below_drewN | apply below_drew1 | refine below_set ?_ GE342.out) | exact HB.out))) : w.heap.size ≤ gb348)); have n7_ := Aside0.mk ((by rw [hg]; exact (below_size (by repeat (first | (with_reducible first | exact HB.out | apply below_alloc | apply pw_below_drewN | apply below_drew1 | refine below_set ?_ GE342.out) | exact HB.out))) : w.heap.size ≤ gb348)); have n8_ := Aside0.mk ((by rw [hg]; exact Nat.ne_of_lt (blk_lt (g := gb342) (o := .cells #[.int .i64 t340, .int .i64 t341] 26 (0, 0)) (by (with_reducible repeat (first | refine blk_drewN ?_ _ | refine blk_drew ?_ | refine blk_alloc ?_ _)); exact BK342.out)) : gb342 ≠ gb348)); have n9_ := Aside0.mk ((by rw [hg]; exact Nat.ne_of_gt (blk_lt (g := gb342) (o := .cells #[.int .i64 t340, .int .i64 t341] 26 (0, 0)) (by (with_reducible repeat (first | refine blk_drewN ?_ _ | refine blk_drew ?_ | refine blk_alloc ?_ _)); exact BK342.out)) : gb348 ≠ gb342)); clear HO336; clear HO339; clear HO345; clear BK342; clear HB; have HO336 := n0_; have HO339 := n1_; have HO345 := n2_; have BK342 := n3_; have HB := n4_; have BK348 := n5_; have GW348 := n6_; have GE348 := n7_; have NB342_348 := n8_; have NB348_342 := n9_; clear n0_ n1_ n2_ n3_ n4_ n5_ n6_ n7_ n8_ n9_; clear hb hbox hg; have hnb96 := NB348_342.out; have hnc96 := NB342_348.out; have hcz97_0 : w95.cell? ⟨gb348, 0, none⟩ = some (.int .i64 0) := (blk_cell BK348.out 0).trans rfl; have hcz97_1 : w95.cell? ⟨gb348, 1, none⟩ = some (.int .i64 0) := (blk_cell BK348.out 1).trans rfl; have hfz97_0 := blk_frozen BK348.out 0; have hfz97_1 := blk_frozen BK348.out 1; have hcz98_0 : w95.cell? ⟨gb342, 0, none⟩ = some (.int .i64 t340) := (blk_cell BK342.out 0).trans rfl; have hcz98_1 : w95.cell? ⟨gb342, 1, none⟩ = some (.int .i64 t341) := (blk_cell BK342.out 1).trans rfl; have hfz98_0 := blk_frozen BK342.out 0; have hfz98_1 := blk_frozen BK342.out 1))
                                  go_ret
                                  exact ⟨by first | rfl | (simp [errW_none, errW_some] <;> rfl) | (simp [*, errW_none, errW_some] <;> rfl), by repeat (first | (with_reducible first | exact HB.out | apply below_alloc | apply pw_below_drewN | apply below_drew1 | refine below_set ?_ GE342.out | refine below_set ?_ GE348.out) | exact HB.out)⟩
                                · rw [if_neg c87] at H
                                  exact absurd H (by simp)
                              · rw [if_neg c85] at H
                                exact absurd H (by simp)
                            · rw [if_neg c83] at H
                              exact absurd H (by simp)
                          · rw [if_neg c82] at H
                            have c82b0 : decide (x10_3 < 0) = false := decide_eq_false c82
                            clear c82
                            replace H := Option.bind_eq_some_iff.mp H
                            obtain ⟨⟨t349, t352, t353⟩, A990, H⟩ := H
                            replace H : (if 2 + x9_3.size ≤ 9223372036854775807 then ((lex_Lex.f k3 ((⟨#[47, 47]⟩ : ByteArray) ++ x9_3)).bind fun bt355 => (if (t352 == 2 && (t353 == x10_3)) = true then (some (bt355.2.1 == 0 && (bt355.2.2 == 0))) else (none))) else (none)) = some r := H
                            have A99 := Aside0.mk A990
                            clear A990
                            by_cases c100 : 2 + x9_3.size ≤ 9223372036854775807
                            · rw [if_pos c100] at H
                              have c100b0 := eq_true c100
                              have c100b1 : decide (2 + x9_3.size ≤ 9223372036854775807) = true := decide_eq_true c100
                              try have c100b2 : (9223372036854775807 < 2 + x9_3.size) = False := eq_false (Nat.not_lt.2 c100)
                              replace H := Option.bind_eq_some_iff.mp H
                              obtain ⟨⟨t355, t358, t359⟩, A1010, H⟩ := H
                              replace H : (if (t352 == 2 && (t353 == x10_3)) = true then (some (t358 == 0 && (t359 == 0))) else (none)) = some r := H
                              have A101 := Aside0.mk A1010
                              clear A1010
                              by_cases c102 : (t352 == 2 && (t353 == x10_3)) = true
                              · rw [if_pos c102] at H
                                have c102b0 : (t352 == 2 && (t353 == x10_3)) = true := c102
                                (try (have c102b1 : decide (t352 = 2 && (t353 == x10_3)) = true := by simpa using c102))
                                (try (have c102b2 : (t352 == 2 && (t353 == x10_3)) = true := by simpa using c102))
                                clear c102
                                obtain rfl := Option.some.inj H
                                go_wp2_with (first | ((with_reducible refine gate_callee (f := 9) rfl ?_); refine goesL_ (some 127) rfl rfl Try.func9 (by kernel_rfl) rfl #[.string x9_3] rfl (by (try simp only [List.map_toArray, List.map_cons, List.map_nil]); first | done | rfl | (simp only [List.length_drop, List.length_take]; rfl)) ?_; (with_reducible refine (lex_Lex.calls k3 x9_3 t349 t352 t353 _ A99.out).mono ?_); rintro e w103 ⟨v350, rfl, ho0, hb⟩; refine ⟨_, rfl, ?_⟩; have n0_ := Aside0.mk (Kd.R_lower ho0 (below_size (by repeat (first | (with_reducible first | exact HB.out | apply below_alloc | apply pw_below_drewN | apply below_drew1) | exact HB.out)))); have n1_ := Aside0.mk (below_step (by repeat (first | (with_reducible first | exact HB.out | apply below_alloc | apply pw_below_drewN | apply below_drew1) | exact HB.out)) hb); clear HB; have HO351 := n0_; have HB := n1_; clear n0_ n1_; (try clear hb); (try clear hb2); (try clear hk); (try clear hi); (try clear ho0)) | ((with_reducible refine gate_dst (N := 16) rfl ?_); refine box_event ?hg (N := 16) ?hd (cs := #[.int .i64 0, .int .i64 0]) (t := 26) ?hr ?_; (case hd => rfl); (case hg => rfl); (case hr => first | (go_simp; done) | (go_simp; rfl)); intro gb354 hg w104 hbox hb; have n0_ := Aside0.mk (Kd.R_below (by (with_reducible repeat (first | apply Kd.R_alloc | apply Kd.R_drewN | apply Kd.R_drew)); exact HO351.out) hb); have n1_ := Aside0.mk (below_step (by repeat (first | (with_reducible first | exact HB.out | apply below_alloc | apply pw_below_drewN | apply below_drew1) | exact HB.out)) hb); have n2_ := Aside0.mk (hbox); have n3_ := Aside0.mk ((by rw [hg]; exact (below_size (by repeat (first | (with_reducible first | exact HB.out | apply below_alloc | apply pw_below_drewN | apply below_drew1) | exact HB.out))) : w.heap.size ≤ gb354)); have n4_ := Aside0.mk ((by rw [hg]; exact (below_size (by repeat (first | (with_reducible first | exact HB.out | apply below_alloc | apply pw_below_drewN | apply below_drew1) | exact HB.out))) : w.heap.size ≤ gb354)); clear HO351; clear HB; have HO351 := n0_; have HB := n1_; have BK354 := n2_; have GW354 := n3_; have GE354 := n4_; clear n0_ n1_ n2_ n3_ n4_; clear hb hbox hg; have hcz105_0 : w104.cell? ⟨gb354, 0, none⟩ = some (.int .i64 0) := (blk_cell BK354.out 0).trans rfl; have hcz105_1 : w104.cell? ⟨gb354, 1, none⟩ = some (.int .i64 0) := (blk_cell BK354.out 1).trans rfl; have hfz105_0 := blk_frozen BK354.out 0; have hfz105_1 := blk_frozen BK354.out 1) | ((with_reducible refine gate_callee (f := 9) rfl ?_); refine goesL_ (some 133) rfl rfl Try.func9 (by kernel_rfl) rfl #[.string ((⟨#[47, 47]⟩ : ByteArray) ++ x9_3)] rfl (by (try simp only [List.map_toArray, List.map_cons, List.map_nil]); first | done | rfl | (simp only [List.length_drop, List.length_take]; rfl)) ?_; (with_reducible refine (lex_Lex.calls k3 ((⟨#[47, 47]⟩ : ByteArray) ++ x9_3) t355 t358 t359 _ A101.out).mono ?_); rintro e w106 ⟨v356, rfl, ho0, hb⟩; refine ⟨_, rfl, ?_⟩; have n0_ := Aside0.mk (Kd.R_elder' (by (with_reducible repeat (first | apply Kd.R_alloc | apply Kd.R_drewN | apply Kd.R_drew)); exact (Kd.R_mono (Kd.R_far (p := ⟨gb354, 1, none⟩) (Kd.R_far (p := ⟨gb354, 0, none⟩) (Kd.R_types HO351.out BK354.out (by decide)) (fun _ hk => hk.2) (.int .i64 t352)) (fun _ hk => hk.2) (.int .i64 t353)) (fun _ h_ => h_.1))) (Kd.R_base ho0) hb); have n1_ := Aside0.mk (Kd.R_lower (Kd.R_new' ho0 (Kd.R_lt (by (with_reducible repeat (first | apply Kd.R_alloc | apply Kd.R_drewN | apply Kd.R_drew)); exact (Kd.R_mono (Kd.R_far (p := ⟨gb354, 1, none⟩) (Kd.R_far (p := ⟨gb354, 0, none⟩) (Kd.R_types HO351.out BK354.out (by decide)) (fun _ hk => hk.2) (.int .i64 t352)) (fun _ hk => hk.2) (.int .i64 t353)) (fun _ h_ => h_.1))))) (below_size (by repeat (first | (with_reducible first | exact HB.out | apply below_alloc | apply pw_below_drewN | apply below_drew1 | refine below_set ?_ GE354.out) | exact HB.out)))); have n2_ := Aside0.mk (blk_below (g := gb354) (o := .cells #[.int .i64 t352, .int .i64 t353] 26 (0, 0)) (by (with_reducible repeat (first | refine blk_drewN ?_ _ | refine blk_drew ?_ | refine blk_alloc ?_ _)); refine blk_put (cs := #[.int .i64 t352, .int .i64 0]) ?_ 1 _ rfl; (with_reducible repeat (first | refine blk_drewN ?_ _ | refine blk_drew ?_ | refine blk_alloc ?_ _)); refine blk_put (cs := #[.int .i64 0, .int .i64 0]) ?_ 0 _ rfl; (with_reducible repeat (first | refine blk_drewN ?_ _ | refine blk_drew ?_ | refine blk_alloc ?_ _)); exact BK354.out) hb); have n3_ := Aside0.mk (below_step (by repeat (first | (with_reducible first | exact HB.out | apply below_alloc | apply pw_below_drewN | apply below_drew1 | refine below_set ?_ GE354.out) | exact HB.out)) hb); clear HO351; clear BK354; clear HB; have HO351 := n0_; have HO357 := n1_; have BK354 := n2_; have HB := n3_; clear n0_ n1_ n2_ n3_; (try clear hb); (try clear hb2); (try clear hk); (try clear hi); (try clear ho0)) | ((with_reducible refine gate_dst (N := 18) rfl ?_); refine box_event ?hg (N := 18) ?hd (cs := #[.int .i64 0, .int .i64 0]) (t := 26) ?hr ?_; (case hd => rfl); (case hg => rfl); (case hr => first | (go_simp; done) | (go_simp; rfl)); intro gb360 hg w107 hbox hb; have n0_ := Aside0.mk (Kd.R_below (by (with_reducible repeat (first | apply Kd.R_alloc | apply Kd.R_drewN | apply Kd.R_drew)); exact HO351.out) hb); have n1_ := Aside0.mk (Kd.R_below (by (with_reducible repeat (first | apply Kd.R_alloc | apply Kd.R_drewN | apply Kd.R_drew)); exact HO357.out) hb); have n2_ := Aside0.mk (blk_below (g := gb354) (o := .cells #[.int .i64 t352, .int .i64 t353] 26 (0, 0)) (by (with_reducible repeat (first | refine blk_drewN ?_ _ | refine blk_drew ?_ | refine blk_alloc ?_ _)); exact BK354.out) hb); have n3_ := Aside0.mk (below_step (by repeat (first | (with_reducible first | exact HB.out | apply below_alloc | apply pw_below_drewN | apply below_drew1 | refine below_set ?_ GE354.out) | exact HB.out)) hb); have n4_ := Aside0.mk (hbox); have n5_ := Aside0.mk ((by rw [hg]; exact (below_size (by repeat (first | (with_reducible first | exact HB.out | apply below_alloc | apply pw_below_drewN | apply below_drew1 | refine below_set ?_ GE354.out) | exact HB.out))) : w.heap.size ≤ gb360)); have n6_ := Aside0.mk ((by rw [hg]; exact (below_size (by repeat (first | (with_reducible first | exact HB.out | apply below_alloc | apply pw_below_drewN | apply below_drew1 | refine below_set ?_ GE354.out) | exact HB.out))) : w.heap.size ≤ gb360)); have n7_ := Aside0.mk ((by rw [hg]; exact Nat.ne_of_lt (blk_lt (g := gb354) (o := .cells #[.int .i64 t352, .int .i64 t353] 26 (0, 0)) (by (with_reducible repeat (first | refine blk_drewN ?_ _ | refine blk_drew ?_ | refine blk_alloc ?_ _)); exact BK354.out)) : gb354 ≠ gb360)); have n8_ := Aside0.mk ((by rw [hg]; exact Nat.ne_of_gt (blk_lt (g := gb354) (o := .cells #[.int .i64 t352, .int .i64 t353] 26 (0, 0)) (by (with_reducible repeat (first | refine blk_drewN ?_ _ | refine blk_drew ?_ | refine blk_alloc ?_ _)); exact BK354.out)) : gb360 ≠ gb354)); clear HO351; clear HO357; clear BK354; clear HB; have HO351 := n0_; have HO357 := n1_; have BK354 := n2_; have HB := n3_; have BK360 := n4_; have GW360 := n5_; have GE360 := n6_; have NB354_360 := n7_; have NB360_354 := n8_; clear n0_ n1_ n2_ n3_ n4_ n5_ n6_ n7_ n8_; clear hb hbox hg; have hnb108 := NB360_354.out; have hnc108 := NB354_360.out; have hcz109_0 : w107.cell? ⟨gb360, 0, none⟩ = some (.int .i64 0) := (blk_cell BK360.out 0).trans rfl; have hcz109_1 : w107.cell? ⟨gb360, 1, none⟩ = some (.int .i64 0) := (blk_cell BK360.out 1).trans rfl; have hfz109_0 := blk_frozen BK360.out 0; have hfz109_1 := blk_frozen BK360.out 1; have hcz110_0 : w107.cell? ⟨gb354, 0, none⟩ = some (.int .i64 t352) := (blk_cell BK354.out 0).trans rfl; have hcz110_1 : w107.cell? ⟨gb354, 1, none⟩ = some (.int .i64 t353) := (blk_cell BK354.out 1).trans rfl; have hfz110_0 := blk_frozen BK354.out 0; have hfz110_1 := blk_frozen BK354.out 1))
                                go_ret
                                exact ⟨by first | rfl | (simp [errW_none, errW_some] <;> rfl) | (simp [*, errW_none, errW_some] <;> rfl), by repeat (first | (with_reducible first | exact HB.out | apply below_alloc | apply pw_below_drewN | apply below_drew1 | refine below_set ?_ GE354.out | refine below_set ?_ GE360.out) | exact HB.out)⟩
                              · rw [if_neg c102] at H
                                exact absurd H (by simp)
                            · rw [if_neg c100] at H
                              exact absurd H (by simp)
  · replace c5 := Bool.eq_false_iff.mpr c5
    subst c5
    have H1 : (none) = some r := by rw [if_neg (show ¬ (false = true) by decide)] at H; exact H
    clear H
    have H := H1
    clear H1
    exact absurd H (by simp)

/-- THE ONE PURE STATEMENT of withelaw6_LexFaults: yours. -/
def withelaw6_LexFaults.Pure : Prop := ∀ (l0 : List Int) (a1 : Int) (a2 : Int), l0.length ≤ maxLen → l0.length * 1 ≤ 140737488351232 → (∀ x ∈ l0, (Lit.int .u8 x).wf = true) → (Lit.int .u8 a1).wf = true → (Lit.int .u8 a2).wf = true → ∃ k, withelaw6_LexFaults.f k l0 a1 a2 = some true
theorem withelaw6_LexFaults.walk (P : withelaw6_LexFaults.Pure) (a0 : Option Addr) (len0 cap0 : Nat) (z0 : List Int) (a1 : Int) (a2 : Int) (w : World) (w0 : (a0 = none ∧ len0 = 0 ∧ cap0 = 0 ∧ z0 = []) ∨ ∃ x, a0 = some x ∧ len0 ≤ cap0 ∧ cap0 ≤ maxLen ∧ z0.length = cap0 ∧ (∀ i, i < z0.length → w.cell? (x.add i) = some (.int .u8 (z0.getD i 0))) ∧ ∀ n ∈ z0, (Lit.int .u8 n).wf = true) (y0 : len0 * 1 ≤ 140737488351232) (w1 : (Lit.int .u8 a1).wf = true) (w2 : (Lit.int .u8 a2).wf = true) :
    Calls Try.prog 6 #[.slice a0 len0 cap0, .int .u8 a1, .int .u8 a2] w fun e w' => e = .returned (.bool true) ∧ Below w.heap.size w w' := by
  obtain ⟨l0, rfl, hr0, hm0, hw0, hc0⟩ := ReadsInt.ofRowC w0
  obtain ⟨k, h⟩ := P l0 a1 a2 hm0 y0 hw0 w1 w2
  refine (withelaw6_LexFaults.calls k _ _ l0 a1 a2 true w (Kd.C_of_reads (d := (0 : Int)) (h1 := fun _ => rfl) hr0) hc0 h).mono ?_
  rintro e w' ⟨rfl, hd⟩
  exact ⟨rfl, hd⟩

end Go.Proofs.Ytmifncmnchnioaa.PL
