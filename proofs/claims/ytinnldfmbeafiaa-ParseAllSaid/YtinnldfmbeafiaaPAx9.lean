-- made by fvprint.py over the kit's print
import Derived.Test.YtinnldfmbeafiaaPAx0
namespace Go.Proofs.Ytinnldfmbeafiaa.PA
open Go.RowKit Go.Proofs.YtinnldfmbeafiaaW.PrintWords Go.Proofs.YtinnldfmbeafiaaW.PrintLast Go.Proofs.YtinnldfmbeafiaaW.PrintMore
attribute [local go_sem] max2_int min2_int max_two min_two max_three min_three max_four min_four   -- for this text's walks alone
set_option linter.unusedVariables false
set_option linter.unusedSimpArgs false

attribute [local go_sem] cell_set_some
-- NOT PRINTED: function 38 (witheref6_cursor_is)

-- NOT PRINTED: function 41 (witheref6_cursor_wrong)

-- NOT PRINTED: function 35 (witheref6_cursor_need)

theorem w9q1 {p : Prop} (h : p := by repeat (first | (with_reducible first | exact HB.out | apply below_alloc | apply pw_below_drewN | apply below_drew1) | exact HB.out)) : p := h
theorem w9q2 {p : Prop} (h : p := by first | rfl | (simp [errW_none, errW_some] <;> rfl) | (simp [*, errW_none, errW_some] <;> rfl)) : p := h
theorem w9q3 {p : Prop} (h : p := by first | rfl | (simp; done) | (simp [*]; done)) : p := h
theorem w9q4 {p : Prop} (h : p := by repeat (first | exact Drawn0.refl _ | apply Drawn0.step)) : p := h
theorem w9q5 {p : Prop} (h : p := by first | (with_reducible assumption) | assumption) : p := h
/-! ### witheref6_words: function 100 -/
def witheref6_words.f  : Option (List ByteArray) := some (([(⟨#[108, 105, 116, 109, 117, 115]⟩ : ByteArray), (⟨#[118, 97, 108, 117, 101, 115]⟩ : ByteArray), (⟨#[105, 110, 105, 116]⟩ : ByteArray), (⟨#[116, 104, 114, 101, 97, 100]⟩ : ByteArray), (⟨#[108, 111, 97, 100]⟩ : ByteArray), (⟨#[97, 100, 100]⟩ : ByteArray), (⟨#[99, 97, 115]⟩ : ByteArray), (⟨#[115, 116, 111, 114, 101]⟩ : ByteArray), (⟨#[102, 101, 110, 99, 101]⟩ : ByteArray), (⟨#[105, 102]⟩ : ByteArray), (⟨#[101, 108, 115, 101]⟩ : ByteArray), (⟨#[101, 120, 105, 115, 116, 115]⟩ : ByteArray), (⟨#[102, 111, 114, 97, 108, 108]⟩ : ByteArray), (⟨#[97, 110, 100]⟩ : ByteArray), (⟨#[111, 114]⟩ : ByteArray), (⟨#[110, 111, 116]⟩ : ByteArray), (⟨#[114, 108, 120]⟩ : ByteArray), (⟨#[97, 99, 113]⟩ : ByteArray), (⟨#[114, 101, 108]⟩ : ByteArray), (⟨#[97, 99, 113, 114, 101, 108]⟩ : ByteArray), (⟨#[115, 99]⟩ : ByteArray)] : List ByteArray))
set_option maxHeartbeats 8000000 in
set_option maxRecDepth 100000 in
theorem witheref6_words.calls  (r : List ByteArray) (w : World) (h : witheref6_words.f  = some r) :
 Calls Try.prog 100 #[] w fun e w' => ∃ v0_ : Value, e = .returned (v0_) ∧ Kd.R Kd.string 9 w' w.heap.size (fun _ => True) v0_ r ∧ Below w.heap.size w w' := by
 have HB := Aside0.mk (Below.refl w.heap.size w)
 have H : (some (([(⟨#[108, 105, 116, 109, 117, 115]⟩ : ByteArray), (⟨#[118, 97, 108, 117, 101, 115]⟩ : ByteArray), (⟨#[105, 110, 105, 116]⟩ : ByteArray), (⟨#[116, 104, 114, 101, 97, 100]⟩ : ByteArray), (⟨#[108, 111, 97, 100]⟩ : ByteArray), (⟨#[97, 100, 100]⟩ : ByteArray), (⟨#[99, 97, 115]⟩ : ByteArray), (⟨#[115, 116, 111, 114, 101]⟩ : ByteArray), (⟨#[102, 101, 110, 99, 101]⟩ : ByteArray), (⟨#[105, 102]⟩ : ByteArray), (⟨#[101, 108, 115, 101]⟩ : ByteArray), (⟨#[101, 120, 105, 115, 116, 115]⟩ : ByteArray), (⟨#[102, 111, 114, 97, 108, 108]⟩ : ByteArray), (⟨#[97, 110, 100]⟩ : ByteArray), (⟨#[111, 114]⟩ : ByteArray), (⟨#[110, 111, 116]⟩ : ByteArray), (⟨#[114, 108, 120]⟩ : ByteArray), (⟨#[97, 99, 113]⟩ : ByteArray), (⟨#[114, 101, 108]⟩ : ByteArray), (⟨#[97, 99, 113, 114, 101, 108]⟩ : ByteArray), (⟨#[115, 99]⟩ : ByteArray)] : List ByteArray))) = some r := h
 clear h
 obtain ⟨y203, hy203⟩ : ∃ y_ : List ByteArray, y_ = (([(⟨#[108, 105, 116, 109, 117, 115]⟩ : ByteArray), (⟨#[118, 97, 108, 117, 101, 115]⟩ : ByteArray), (⟨#[105, 110, 105, 116]⟩ : ByteArray), (⟨#[116, 104, 114, 101, 97, 100]⟩ : ByteArray), (⟨#[108, 111, 97, 100]⟩ : ByteArray), (⟨#[97, 100, 100]⟩ : ByteArray), (⟨#[99, 97, 115]⟩ : ByteArray), (⟨#[115, 116, 111, 114, 101]⟩ : ByteArray), (⟨#[102, 101, 110, 99, 101]⟩ : ByteArray), (⟨#[105, 102]⟩ : ByteArray), (⟨#[101, 108, 115, 101]⟩ : ByteArray), (⟨#[101, 120, 105, 115, 116, 115]⟩ : ByteArray), (⟨#[102, 111, 114, 97, 108, 108]⟩ : ByteArray), (⟨#[97, 110, 100]⟩ : ByteArray), (⟨#[111, 114]⟩ : ByteArray), (⟨#[110, 111, 116]⟩ : ByteArray), (⟨#[114, 108, 120]⟩ : ByteArray), (⟨#[97, 99, 113]⟩ : ByteArray), (⟨#[114, 101, 108]⟩ : ByteArray), (⟨#[97, 99, 113, 114, 101, 108]⟩ : ByteArray), (⟨#[115, 99]⟩ : ByteArray)] : List ByteArray)) := ⟨_, rfl⟩
 replace H : (some y203) = some r := by first | (rw [hy203]; with_reducible exact H) | (have H2_ := (Option.bind_some _ _).symm.trans H; rw [hy203]; with_reducible exact H2_) | (have H2_ := (Option.bind_some _ _).symm.trans H; with_reducible exact H2_) | with_reducible exact H | (rw [hy203]; exact H) | exact H
 have Ny203 := Aside0.mk hy203
 clear hy203
 obtain rfl := Option.some.inj H
 go_enter Try.func100, Try.ntmps100
 go_wp2_with (first | ((with_reducible refine gate_dst (N := 1) rfl ?_); refine Kd.R_lit Kd.string _ 9 ?hg (N := 1) ?hd (xs := ([(⟨#[108, 105, 116, 109, 117, 115]⟩ : ByteArray), (⟨#[118, 97, 108, 117, 101, 115]⟩ : ByteArray), (⟨#[105, 110, 105, 116]⟩ : ByteArray), (⟨#[116, 104, 114, 101, 97, 100]⟩ : ByteArray), (⟨#[108, 111, 97, 100]⟩ : ByteArray), (⟨#[97, 100, 100]⟩ : ByteArray), (⟨#[99, 97, 115]⟩ : ByteArray), (⟨#[115, 116, 111, 114, 101]⟩ : ByteArray), (⟨#[102, 101, 110, 99, 101]⟩ : ByteArray), (⟨#[105, 102]⟩ : ByteArray), (⟨#[101, 108, 115, 101]⟩ : ByteArray), (⟨#[101, 120, 105, 115, 116, 115]⟩ : ByteArray), (⟨#[102, 111, 114, 97, 108, 108]⟩ : ByteArray), (⟨#[97, 110, 100]⟩ : ByteArray), (⟨#[111, 114]⟩ : ByteArray), (⟨#[110, 111, 116]⟩ : ByteArray), (⟨#[114, 108, 120]⟩ : ByteArray), (⟨#[97, 99, 113]⟩ : ByteArray), (⟨#[114, 101, 108]⟩ : ByteArray), (⟨#[97, 99, 113, 114, 101, 108]⟩ : ByteArray), (⟨#[115, 99]⟩ : ByteArray)] : List ByteArray)) (inner := [.string (⟨#[108, 105, 116, 109, 117, 115]⟩ : ByteArray), .string (⟨#[118, 97, 108, 117, 101, 115]⟩ : ByteArray), .string (⟨#[105, 110, 105, 116]⟩ : ByteArray), .string (⟨#[116, 104, 114, 101, 97, 100]⟩ : ByteArray), .string (⟨#[108, 111, 97, 100]⟩ : ByteArray), .string (⟨#[97, 100, 100]⟩ : ByteArray), .string (⟨#[99, 97, 115]⟩ : ByteArray), .string (⟨#[115, 116, 111, 114, 101]⟩ : ByteArray), .string (⟨#[102, 101, 110, 99, 101]⟩ : ByteArray), .string (⟨#[105, 102]⟩ : ByteArray), .string (⟨#[101, 108, 115, 101]⟩ : ByteArray), .string (⟨#[101, 120, 105, 115, 116, 115]⟩ : ByteArray), .string (⟨#[102, 111, 114, 97, 108, 108]⟩ : ByteArray), .string (⟨#[97, 110, 100]⟩ : ByteArray), .string (⟨#[111, 114]⟩ : ByteArray), .string (⟨#[110, 111, 116]⟩ : ByteArray), .string (⟨#[114, 108, 120]⟩ : ByteArray), .string (⟨#[97, 99, 113]⟩ : ByteArray), .string (⟨#[114, 101, 108]⟩ : ByteArray), .string (⟨#[97, 99, 113, 114, 101, 108]⟩ : ByteArray), .string (⟨#[115, 99]⟩ : ByteArray)]) (ok := fun _ => True) (okp := fun _ => True) ?hr ?hp (fun _ hk => hk) trivial (Below.refl _ _) (Nat.le_refl _) (by simp) ?_; (case hd => rfl); (case hg => rfl); (case hr => first | (go_simp; done) | (go_simp; rfl)); (case hp => exact (Reps.one (show Kd.M Kd.string _ _ _ (⟨#[108, 105, 116, 109, 117, 115]⟩ : ByteArray) [.string (⟨#[108, 105, 116, 109, 117, 115]⟩ : ByteArray)] from rfl) (Reps.one (show Kd.M Kd.string _ _ _ (⟨#[118, 97, 108, 117, 101, 115]⟩ : ByteArray) [.string (⟨#[118, 97, 108, 117, 101, 115]⟩ : ByteArray)] from rfl) (Reps.one (show Kd.M Kd.string _ _ _ (⟨#[105, 110, 105, 116]⟩ : ByteArray) [.string (⟨#[105, 110, 105, 116]⟩ : ByteArray)] from rfl) (Reps.one (show Kd.M Kd.string _ _ _ (⟨#[116, 104, 114, 101, 97, 100]⟩ : ByteArray) [.string (⟨#[116, 104, 114, 101, 97, 100]⟩ : ByteArray)] from rfl) (Reps.one (show Kd.M Kd.string _ _ _ (⟨#[108, 111, 97, 100]⟩ : ByteArray) [.string (⟨#[108, 111, 97, 100]⟩ : ByteArray)] from rfl) (Reps.one (show Kd.M Kd.string _ _ _ (⟨#[97, 100, 100]⟩ : ByteArray) [.string (⟨#[97, 100, 100]⟩ : ByteArray)] from rfl) (Reps.one (show Kd.M Kd.string _ _ _ (⟨#[99, 97, 115]⟩ : ByteArray) [.string (⟨#[99, 97, 115]⟩ : ByteArray)] from rfl) (Reps.one (show Kd.M Kd.string _ _ _ (⟨#[115, 116, 111, 114, 101]⟩ : ByteArray) [.string (⟨#[115, 116, 111, 114, 101]⟩ : ByteArray)] from rfl) (Reps.one (show Kd.M Kd.string _ _ _ (⟨#[102, 101, 110, 99, 101]⟩ : ByteArray) [.string (⟨#[102, 101, 110, 99, 101]⟩ : ByteArray)] from rfl) (Reps.one (show Kd.M Kd.string _ _ _ (⟨#[105, 102]⟩ : ByteArray) [.string (⟨#[105, 102]⟩ : ByteArray)] from rfl) (Reps.one (show Kd.M Kd.string _ _ _ (⟨#[101, 108, 115, 101]⟩ : ByteArray) [.string (⟨#[101, 108, 115, 101]⟩ : ByteArray)] from rfl) (Reps.one (show Kd.M Kd.string _ _ _ (⟨#[101, 120, 105, 115, 116, 115]⟩ : ByteArray) [.string (⟨#[101, 120, 105, 115, 116, 115]⟩ : ByteArray)] from rfl) (Reps.one (show Kd.M Kd.string _ _ _ (⟨#[102, 111, 114, 97, 108, 108]⟩ : ByteArray) [.string (⟨#[102, 111, 114, 97, 108, 108]⟩ : ByteArray)] from rfl) (Reps.one (show Kd.M Kd.string _ _ _ (⟨#[97, 110, 100]⟩ : ByteArray) [.string (⟨#[97, 110, 100]⟩ : ByteArray)] from rfl) (Reps.one (show Kd.M Kd.string _ _ _ (⟨#[111, 114]⟩ : ByteArray) [.string (⟨#[111, 114]⟩ : ByteArray)] from rfl) (Reps.one (show Kd.M Kd.string _ _ _ (⟨#[110, 111, 116]⟩ : ByteArray) [.string (⟨#[110, 111, 116]⟩ : ByteArray)] from rfl) (Reps.one (show Kd.M Kd.string _ _ _ (⟨#[114, 108, 120]⟩ : ByteArray) [.string (⟨#[114, 108, 120]⟩ : ByteArray)] from rfl) (Reps.one (show Kd.M Kd.string _ _ _ (⟨#[97, 99, 113]⟩ : ByteArray) [.string (⟨#[97, 99, 113]⟩ : ByteArray)] from rfl) (Reps.one (show Kd.M Kd.string _ _ _ (⟨#[114, 101, 108]⟩ : ByteArray) [.string (⟨#[114, 101, 108]⟩ : ByteArray)] from rfl) (Reps.one (show Kd.M Kd.string _ _ _ (⟨#[97, 99, 113, 114, 101, 108]⟩ : ByteArray) [.string (⟨#[97, 99, 113, 114, 101, 108]⟩ : ByteArray)] from rfl) (Reps.one (show Kd.M Kd.string _ _ _ (⟨#[115, 99]⟩ : ByteArray) [.string (⟨#[115, 99]⟩ : ByteArray)] from rfl) (Reps.none _ _))))))))))))))))))))))); intro v204 w1 ho2 hb hg_ hnew_; clear hg_ hnew_; (first | rw [← Ny203.out] at ho2 | (simp only [Int.reduceToNat] at ho2; rw [← Ny203.out] at ho2)); have n0_ := Aside0.mk (Kd.R_lower ho2 (below_size (w9q1))); have n1_ := Aside0.mk (below_step (w9q1) hb); clear HB; have HO205 := n0_; have HB := n1_; clear n0_ n1_; clear hb ho2))
 go_ret
 exact ⟨_, w9q2, by (with_reducible repeat (first | apply Kd.R_alloc | apply Kd.R_drewN | apply Kd.R_drew)); exact HO205.out, w9q1⟩

/-! ### witheref6_Keyword: function 87 -/
def witheref6_Keyword.l0 : Nat → ByteArray → List ByteArray → Int → Option (Bool)
 | 0, _, _, _ => none
 | k + 1, x0, x3, x4 => if x4 < (x3.length : Int) then (if 0 ≤ x4 then (if (rdOf ByteArray.empty x3 x4).toList = x0.toList then (some true) else (witheref6_Keyword.l0 k x0 x3 (wrap64 (x4 + 1)))) else (none)) else (some false)
def witheref6_Keyword.f (k : Nat) (a0 : ByteArray) : Option (Bool) := (witheref6_words.f).bind fun t206 => (witheref6_Keyword.l0 k a0 t206 0)
theorem witheref6_Keyword.mono_l : ∀ k, (∀ y0 y1 y2, LeO (witheref6_Keyword.l0 k y0 y1 y2) (witheref6_Keyword.l0 (k + 1) y0 y1 y2))
 | 0 => fun _ _ _ r h => by simp [witheref6_Keyword.l0] at h
 | k + 1 => by
  have ih0 := witheref6_Keyword.mono_l k
  ·intro y0 y1 y2
   unfold witheref6_Keyword.l0
   repeat' first
   | (with_reducible exact ih0 _ _ _)
   | (with_reducible exact LeO.refl _)
   | (with_reducible exact LeO.none _)
   | (with_reducible refine LeO.ite ?_ ?_)
   | (with_reducible refine LeO.bind ?_ (fun _ => ?_))
   | exact ih0 _ _ _
   | exact LeO.none _
   | refine LeO.ite ?_ ?_
   | refine LeO.bind ?_ (fun _ => ?_)
theorem witheref6_Keyword.mono : ∀ a0 k, LeO (witheref6_Keyword.f k a0) (witheref6_Keyword.f (k + 1) a0) := by
 intro a0 k
 have ih0 := witheref6_Keyword.mono_l k
 unfold witheref6_Keyword.f
 repeat' first
  | (with_reducible exact ih0 _ _ _)
  | (with_reducible exact LeO.refl _)
  | (with_reducible exact LeO.none _)
  | (with_reducible refine LeO.ite ?_ ?_)
  | (with_reducible refine LeO.bind ?_ (fun _ => ?_))
  | exact ih0 _ _ _
  | exact LeO.none _
  | refine LeO.ite ?_ ?_
  | refine LeO.bind ?_ (fun _ => ?_)
set_option maxHeartbeats 8000000 in
set_option maxRecDepth 100000 in
theorem witheref6_Keyword.calls (k : Nat) (a0 : ByteArray) (r : Bool) (w : World) (h : witheref6_Keyword.f k a0 = some r) :
 Calls Try.prog 87 #[.string a0] w fun e w' => e = .returned (.bool r) ∧ Below w.heap.size w w' := by
 have HB := Aside0.mk (Below.refl w.heap.size w)
 have H : ((witheref6_words.f).bind fun t206 => (witheref6_Keyword.l0 k a0 t206 0)) = some r := h
 clear h
 replace H := Option.bind_eq_some_iff.mp H
 obtain ⟨t206, A20, H⟩ := H
 replace H : (witheref6_Keyword.l0 k a0 t206 0) = some r := H
 have A2 := Aside0.mk A20
 clear A20
 have H' := Aside0.mk H
 clear H
 go_enter Try.func87, Try.ntmps87
 go_wp2_with (first | ((with_reducible refine gate_callee (f := 100) rfl ?_); refine goesL_ (some 5) rfl rfl Try.func100 (by kernel_rfl) rfl #[] rfl (by (try simp only [List.map_toArray, List.map_cons, List.map_nil]); first | done | rfl | (simp only [List.length_drop, List.length_take]; rfl)) ?_; (with_reducible refine (witheref6_words.calls  t206 _ A2.out).mono ?_); rintro e w3 ⟨v207, rfl, ho0, hb⟩; refine ⟨_, rfl, ?_⟩; have n0_ := Aside0.mk (Kd.R_lower ho0 (below_size (w9q1))); have n1_ := Aside0.mk (below_step (w9q1) hb); clear HB; have HO208 := n0_; have HB := n1_; clear n0_ n1_; (try clear hb); (try clear hb2); (try clear hk); (try clear hi); (try clear ho0)))
 try go_simp
 go_loopg [4] k (fun kq v4 w' => ∃ (x4_1 : Int), v4 = .int .i64 x4_1 ∧ Aside0 (witheref6_Keyword.l0 kq a0 t206 x4_1 = some r) ∧ Aside0 (kq ≤ k) ∧ Aside0 (Kd.R Kd.string 9 w' w.heap.size (fun _ => True) v207 t206) ∧ Aside0 (Below w.heap.size w w'))
 case atStart => exact ⟨(0), (w9q3), H', ⟨Nat.le_refl _⟩, ⟨by (with_reducible repeat (first | apply Kd.R_alloc | apply Kd.R_drewN | apply Kd.R_drew)); exact HO208.out⟩, ⟨w9q1⟩⟩
 case round =>
  clear H'
  try clear c1
  try clear p2
  obtain ⟨x4_1, rfl, HA, HK1, HO_3, HB⟩ := hrel
  cases gk with
  | zero => exact absurd HA.out (by simp [witheref6_Keyword.l0])
  | succ k1 =>
   have H := HA.out
   clear HA
   simp only [witheref6_Keyword.l0] at H
   by_cases c4 : x4_1 < (t206.length : Int)
   ·rw [if_pos c4] at H
    have c4b0 : decide (x4_1 < (t206.length : Int)) = true := decide_eq_true c4
    clear c4
    by_cases c5 : 0 ≤ x4_1
    ·rw [if_pos c5] at H
     have c5b0 : decide (0 ≤ x4_1) = true := decide_eq_true c5
     clear c5
     by_cases c6 : (rdOf ByteArray.empty t206 x4_1).toList = a0.toList
     ·rw [if_pos c6] at H
      have c6b0 : ((rdOf ByteArray.empty t206 x4_1).toList == a0.toList) = true := beq_iff_eq.mpr c6
      have c6b1 : ((rdOf ByteArray.empty t206 x4_1).toList != a0.toList) = false := bne_eq_false_iff_eq.mpr c6
      clear c6
      obtain rfl := Option.some.inj H
      obtain ⟨Ao7, co7, eo7⟩ := Kd.R_slice HO_3.out
      subst eo7
      have p209 : 0 ≤ (x4_1 : Int) := of_decide_eq_true (w9q5)
      have q209 : x4_1 < (t206.length : Int) := of_decide_eq_true (w9q5)
      obtain ⟨ad209, e209, hx209_0⟩ := Kd.at_string (Kd.R_reads' HO_3.out).2.2 x4_1 p209 q209
      cases e209
      replace p209 := eq_true p209
      replace q209 := eq_true q209
      go_wp2
      go_ret
      exact ⟨w9q2, w9q1⟩
     ·rw [if_neg c6] at H
      have c6b0 : ((rdOf ByteArray.empty t206 x4_1).toList == a0.toList) = false := beq_eq_false_iff_ne.mpr c6
      have c6b1 : ((rdOf ByteArray.empty t206 x4_1).toList != a0.toList) = true := bne_iff_ne.mpr c6
      have H' := Aside0.mk H
      clear H
      obtain ⟨Ao8, co8, eo8⟩ := Kd.R_slice HO_3.out
      subst eo8
      have p209 : 0 ≤ (x4_1 : Int) := of_decide_eq_true (w9q5)
      have q209 : x4_1 < (t206.length : Int) := of_decide_eq_true (w9q5)
      obtain ⟨ad209, e209, hx209_0⟩ := Kd.at_string (Kd.R_reads' HO_3.out).2.2 x4_1 p209 q209
      cases e209
      replace p209 := eq_true p209
      replace q209 := eq_true q209
      go_wp2
      go_roundg k1
      case measure => have := HK1.out; omega
      case rel => exact ⟨(wrap64 (x4_1 + 1)), (w9q3), H', ⟨by have := HK1.out; omega⟩, ⟨by (with_reducible repeat (first | apply Kd.R_alloc | apply Kd.R_drewN | apply Kd.R_drew)); exact HO_3.out⟩, ⟨w9q1⟩⟩
    ·rw [if_neg c5] at H
     exact absurd H (by simp)
   ·rw [if_neg c4] at H
    have c4b0 : decide (x4_1 < (t206.length : Int)) = false := decide_eq_false c4
    clear c4
    obtain rfl := Option.some.inj H
    obtain ⟨Ao9, co9, eo9⟩ := Kd.R_slice HO_3.out
    subst eo9
    go_wp2
    go_ret
    exact ⟨w9q2, w9q1⟩

-- NOT PRINTED: function 62 (witheref6_cursor_isName)

-- NOT PRINTED: function 36 (witheref6_cursor_name)

/-- A state of type 65 at block g of W; what its slices lead to came in by w0. -/
def IsS65 (w0 W : World) (g : Nat) (f0 : List (S53)) (f1 : Int) (f2 : Int) (f3 : List Int) : Prop := ∃ A0 c0, ∃ A3 c3, W.heap[g]? = some (.cells #[.slice A0 f0.length c0, .int .i64 f1, .int .i64 f2, .slice A3 f3.length c3] 65 (0, 0)) ∧ w0.heap.size ≤ g ∧ Kd.C k53 w0 A0 f0.length f0 ∧ Kd.C (Kd.int .i64) w0 A3 f3.length f3
theorem IsS65.grown {w0 W : World} {g : Nat} {f0 : List (S53)} {f1 : Int} {f2 : Int} {f3 : List Int} {W1 : World} {row : Option Nat} (h : IsS65 w0 W g f0 f1 f2 f3) (hw : W.grownBy W1 row) (hne : some g ≠ row) : IsS65 w0 W1 g f0 f1 f2 f3 := by
 obtain ⟨A0, c0, A3, c3, hb, hg, hr0, hr3⟩ := h
 exact ⟨A0, c0, A3, c3, blk_grown hb hw hne, hg, hr0, hr3⟩
theorem IsS65.kept {w0 W : World} {g : Nat} {f0 : List (S53)} {f1 : Int} {f2 : Int} {f3 : List Int} {W1 : World} {S : Nat → Prop} (h : IsS65 w0 W g f0 f1 f2 f3) (hk : Kept W W1 S) (hne : ¬ S g) : IsS65 w0 W1 g f0 f1 f2 f3 := by
 obtain ⟨A0, c0, A3, c3, hb, hg, hr0, hr3⟩ := h
 exact ⟨A0, c0, A3, c3, blk_kept hb hk hne, hg, hr0, hr3⟩
theorem IsS65.below {w0 W : World} {g : Nat} {f0 : List (S53)} {f1 : Int} {f2 : Int} {f3 : List Int} {W1 : World} (h : IsS65 w0 W g f0 f1 f2 f3) (hw : Below W.heap.size W W1) : IsS65 w0 W1 g f0 f1 f2 f3 := h.grown (grown_of_below hw none) (by simp)
theorem IsS65.alloc {w0 W : World} {g : Nat} {f0 : List (S53)} {f1 : Int} {f2 : Int} {f3 : List Int} (h : IsS65 w0 W g f0 f1 f2 f3) (o : Obj) : IsS65 w0 (W.alloc o) g f0 f1 f2 f3 := h.below (below_alloc (Below.refl _ _) o)
theorem IsS65.drewN {w0 W : World} {g : Nat} {f0 : List (S53)} {f1 : Int} {f2 : Int} {f3 : List Int} (h : IsS65 w0 W g f0 f1 f2 f3) (m : Nat) : IsS65 w0 (W.drewN m) g f0 f1 f2 f3 := h
theorem IsS65.drew {w0 W : World} {g : Nat} {f0 : List (S53)} {f1 : Int} {f2 : Int} {f3 : List Int} (h : IsS65 w0 W g f0 f1 f2 f3) : IsS65 w0 W.drew g f0 f1 f2 f3 := h
theorem IsS65.at_ {w0 W : World} {g : Nat} {f0 : List (S53)} {f1 : Int} {f2 : Int} {f3 : List Int} {w' : World} {m : Nat} (hq : W.drewN m = w') (h : IsS65 w0 W g f0 f1 f2 f3) : IsS65 w0 w' g f0 f1 f2 f3 := by subst hq; exact IsS65.drewN h m
theorem IsS65.apart {w0 W : World} {g : Nat} {f0 : List (S53)} {f1 : Int} {f2 : Int} {f3 : List Int} {α : Type} {d : Kd α} {e : Nat} {base : Nat} {ok : Nat → Prop} {v : Value} {xs : List α} (h : IsS65 w0 W g f0 f1 f2 f3) (ho : d.R e W base ok v xs) (ht : ∀ q, q ∈ e :: d.E → q ≠ 65) : d.R e W base (fun k => ok k ∧ k ≠ g) v xs := by
 obtain ⟨A0, c0, A3, c3, hb, hg, hr0, hr3⟩ := h
 exact Kd.R_types ho hb ht
theorem IsS65.own_ne {w0 W : World} {g : Nat} {f0 : List (S53)} {f1 : Int} {f2 : Int} {f3 : List Int} {α : Type} {d : Kd α} {e : Nat} {base : Nat} {ok : Nat → Prop} {v : Value} {xs : List α} (h : IsS65 w0 W g f0 f1 f2 f3) (ho : d.R e W base ok v xs) (ht : e ≠ 65) : some g ≠ v.ownBlock := by
 obtain ⟨A0, c0, A3, c3, hb, hg, hr0, hr3⟩ := h
 exact Kd.R_ne ho hb ht
theorem IsS65.lt {w0 W : World} {g : Nat} {f0 : List (S53)} {f1 : Int} {f2 : Int} {f3 : List Int} (h : IsS65 w0 W g f0 f1 f2 f3) : g < W.heap.size := by
 obtain ⟨A0, c0, A3, c3, hb, hg, hr0, hr3⟩ := h
 exact blk_lt hb
theorem IsS65.ge {w0 W : World} {g : Nat} {f0 : List (S53)} {f1 : Int} {f2 : Int} {f3 : List Int} (h : IsS65 w0 W g f0 f1 f2 f3) : w0.heap.size ≤ g := by
 obtain ⟨A0, c0, A3, c3, hb, hg, hr0, hr3⟩ := h
 exact hg
theorem IsS65.far {w0 W : World} {g : Nat} {f0 : List (S53)} {f1 : Int} {f2 : Int} {f3 : List Int} {p : Addr} (h : IsS65 w0 W g f0 f1 f2 f3) (hne : g ≠ p.block) (u : Value) : IsS65 w0 (W.setCell p u) g f0 f1 f2 f3 := by
 obtain ⟨A0, c0, A3, c3, hb, hg, hr0, hr3⟩ := h
 exact ⟨A0, c0, A3, c3, blk_far hb hne u, hg, hr0, hr3⟩
theorem cellS65_0 {W : World} {g : Nat} {A0 : Option Addr} {c0 : Nat} {A3 : Option Addr} {c3 : Nat} {f0 : List (S53)} {f1 : Int} {f2 : Int} {f3 : List Int} (h : W.heap[g]? = some (.cells #[.slice A0 f0.length c0, .int .i64 f1, .int .i64 f2, .slice A3 f3.length c3] 65 (0, 0))) : W.cell? ⟨g, 0, none⟩ = some (.slice A0 f0.length c0) := (blk_cell h 0).trans rfl
theorem cellS65_1 {W : World} {g : Nat} {A0 : Option Addr} {c0 : Nat} {A3 : Option Addr} {c3 : Nat} {f0 : List (S53)} {f1 : Int} {f2 : Int} {f3 : List Int} (h : W.heap[g]? = some (.cells #[.slice A0 f0.length c0, .int .i64 f1, .int .i64 f2, .slice A3 f3.length c3] 65 (0, 0))) : W.cell? ⟨g, 1, none⟩ = some (.int .i64 f1) := (blk_cell h 1).trans rfl
theorem IsS65.set_1 {w0 W : World} {g : Nat} {f0 : List (S53)} {f1 : Int} {f2 : Int} {f3 : List Int} (h : IsS65 w0 W g f0 f1 f2 f3) (x : Int) : IsS65 w0 (W.setCell ⟨g, 1, none⟩ (.int .i64 x)) g f0 x f2 f3 := by
 obtain ⟨A0, c0, A3, c3, hb, hg, hr0, hr3⟩ := h
 exact ⟨A0, c0, A3, c3, by simpa using blk_set hb 1 (.int .i64 x), hg, hr0, hr3⟩
theorem cellS65_2 {W : World} {g : Nat} {A0 : Option Addr} {c0 : Nat} {A3 : Option Addr} {c3 : Nat} {f0 : List (S53)} {f1 : Int} {f2 : Int} {f3 : List Int} (h : W.heap[g]? = some (.cells #[.slice A0 f0.length c0, .int .i64 f1, .int .i64 f2, .slice A3 f3.length c3] 65 (0, 0))) : W.cell? ⟨g, 2, none⟩ = some (.int .i64 f2) := (blk_cell h 2).trans rfl
theorem IsS65.set_2 {w0 W : World} {g : Nat} {f0 : List (S53)} {f1 : Int} {f2 : Int} {f3 : List Int} (h : IsS65 w0 W g f0 f1 f2 f3) (x : Int) : IsS65 w0 (W.setCell ⟨g, 2, none⟩ (.int .i64 x)) g f0 f1 x f3 := by
 obtain ⟨A0, c0, A3, c3, hb, hg, hr0, hr3⟩ := h
 exact ⟨A0, c0, A3, c3, by simpa using blk_set hb 2 (.int .i64 x), hg, hr0, hr3⟩
theorem cellS65_3 {W : World} {g : Nat} {A0 : Option Addr} {c0 : Nat} {A3 : Option Addr} {c3 : Nat} {f0 : List (S53)} {f1 : Int} {f2 : Int} {f3 : List Int} (h : W.heap[g]? = some (.cells #[.slice A0 f0.length c0, .int .i64 f1, .int .i64 f2, .slice A3 f3.length c3] 65 (0, 0))) : W.cell? ⟨g, 3, none⟩ = some (.slice A3 f3.length c3) := (blk_cell h 3).trans rfl
theorem IsS65.new (w0 W : World) (A0 : Option Addr) (c0 : Nat) (A3 : Option Addr) (c3 : Nat) (f0 : List (S53)) (f1 : Int) (f2 : Int) (f3 : List Int) (hB : Below w0.heap.size w0 W) (hr0 : Kd.C k53 w0 A0 f0.length f0) (hr3 : Kd.C (Kd.int .i64) w0 A3 f3.length f3) : IsS65 w0 (W.alloc (.cells #[.slice A0 f0.length c0, .int .i64 f1, .int .i64 f2, .slice A3 f3.length c3] 65)) W.heap.size f0 f1 f2 f3 := ⟨A0, c0, A3, c3, by simpa using heap_alloc_new W _, hB.size, hr0, hr3⟩

/-! ### witheref6_cursor_isNumber: function 63 -/
def witheref6_cursor_isNumber.f (s0_0 : List (S53)) (s0_1 : Int) (s0_2 : Int) (s0_3 : List Int) : Option (Bool × Int × Int) := if s0_2 < 0 then (if 0 ≤ s0_1 then (if s0_1 < (s0_0.length : Int) then (some ((((rd_T53 s0_0 s0_1).f0) == 2), s0_1, s0_2)) else (none)) else (none)) else (some (false, s0_1, s0_2))
set_option maxHeartbeats 8000000 in
set_option maxRecDepth 100000 in
theorem witheref6_cursor_isNumber.calls (g : Nat) (s0_0 : List (S53)) (s0_1 : Int) (s0_2 : Int) (s0_3 : List Int) (r1 : Bool) (r2 : Int) (r3 : Int) (w0 w : World) (hI : IsS65 w0 w g s0_0 s0_1 s0_2 s0_3) (hB : Below w0.heap.size w0 w) (h : witheref6_cursor_isNumber.f s0_0 s0_1 s0_2 s0_3 = some (r1, r2, r3)) :
 Calls Try.prog 63 #[.pointer (some ⟨g, 0, none⟩)] w fun e w' => e = .returned (.bool r1) ∧ IsS65 w0 w' g s0_0 r2 r3 s0_3 ∧ Below w0.heap.size w0 w' ∧ KeepBut w w' g none := by
 have HI0 := Aside0.mk hI
 have HK := Aside0.mk (KeepBut.refl w g none)
 have HL := Aside0.mk hB.size
 clear hI
 have HW0 := Aside0.mk hB.size
 have HB := Aside0.mk hB
 clear hB
 have H : (if s0_2 < 0 then (if 0 ≤ s0_1 then (if s0_1 < (s0_0.length : Int) then (some ((((rd_T53 s0_0 s0_1).f0) == 2), s0_1, s0_2)) else (none)) else (none)) else (some (false, s0_1, s0_2))) = some (r1, r2, r3) := h
 clear h
 by_cases c2 : s0_2 < 0
 ·rw [if_pos c2] at H
  have c2b0 : decide (s0_2 < 0) = true := decide_eq_true c2
  clear c2
  by_cases c3 : 0 ≤ s0_1
  ·rw [if_pos c3] at H
   have c3b0 : decide (0 ≤ s0_1) = true := decide_eq_true c3
   clear c3
   by_cases c4 : s0_1 < (s0_0.length : Int)
   ·rw [if_pos c4] at H
    have c4b0 : decide (s0_1 < (s0_0.length : Int)) = true := decide_eq_true c4
    clear c4
    simp only [Option.some.injEq, Prod.mk.injEq] at H
    obtain ⟨rfl, rfl, rfl⟩ := H
    obtain ⟨ASz5_0, cSz5_0, ASz5_3, cSz5_3, HGz5, hgz5, HSz5_0, HSz5_3⟩ := HI0.out
    have hcz5_0 := cellS65_0 HGz5
    have hcz5_1 := cellS65_1 HGz5
    have hcz5_2 := cellS65_2 HGz5
    have hcz5_3 := cellS65_3 HGz5
    have hfz5_1 := blk_frozen HGz5 1
    have hfz5_2 := blk_frozen HGz5 2
    clear HGz5 hgz5
    have p213 : 0 ≤ (s0_1 : Int) := of_decide_eq_true (w9q5)
    have q213 : s0_1 < (s0_0.length : Int) := of_decide_eq_true (w9q5)
    obtain ⟨ad213, e213, hx213_0, hx213_1, hx213_2, hx213_3⟩ := at_T53 HSz5_0 s0_1 p213 q213
    cases e213
    replace hx213_0 := pw_cell_below HB.out hx213_0
    replace hx213_1 := pw_cell_below HB.out hx213_1
    replace hx213_2 := pw_cell_below HB.out hx213_2
    replace hx213_3 := pw_cell_below HB.out hx213_3
    replace p213 := eq_true p213
    replace q213 := eq_true q213
    go_enter Try.func63, Try.ntmps63
    go_wp2
    repeat (go_quiet (fail); try go_wp2)
    go_ret
    exact ⟨w9q2, by repeat (first | (with_reducible first | exact HI0.out | apply IsS65.alloc | apply IsS65.drewN | apply IsS65.drew | apply IsS65.set_1 | apply IsS65.set_2) | exact HI0.out), by repeat (first | (with_reducible first | exact HB.out | apply below_alloc | apply pw_below_drewN | apply below_drew1 | refine below_set ?_ (IsS65.ge HI0.out)) | exact HB.out), by repeat (first | (with_reducible first | exact HK.out | apply KeepBut.set_ | apply keep_drewN | apply keep_drew | apply keep_alloc) | exact HK.out)⟩
   ·rw [if_neg c4] at H
    exact absurd H (by simp)
  ·rw [if_neg c3] at H
   exact absurd H (by simp)
 ·rw [if_neg c2] at H
  have c2b0 : decide (s0_2 < 0) = false := decide_eq_false c2
  clear c2
  simp only [Option.some.injEq, Prod.mk.injEq] at H
  obtain ⟨rfl, rfl, rfl⟩ := H
  obtain ⟨ASz6_0, cSz6_0, ASz6_3, cSz6_3, HGz6, hgz6, HSz6_0, HSz6_3⟩ := HI0.out
  have hcz6_0 := cellS65_0 HGz6
  have hcz6_1 := cellS65_1 HGz6
  have hcz6_2 := cellS65_2 HGz6
  have hcz6_3 := cellS65_3 HGz6
  have hfz6_1 := blk_frozen HGz6 1
  have hfz6_2 := blk_frozen HGz6 2
  clear HGz6 hgz6
  go_enter Try.func63, Try.ntmps63
  go_wp2
  repeat (go_quiet (fail); try go_wp2)
  go_ret
  exact ⟨w9q2, by repeat (first | (with_reducible first | exact HI0.out | apply IsS65.alloc | apply IsS65.drewN | apply IsS65.drew | apply IsS65.set_1 | apply IsS65.set_2) | exact HI0.out), by repeat (first | (with_reducible first | exact HB.out | apply below_alloc | apply pw_below_drewN | apply below_drew1 | refine below_set ?_ (IsS65.ge HI0.out)) | exact HB.out), by repeat (first | (with_reducible first | exact HK.out | apply KeepBut.set_ | apply keep_drewN | apply keep_drew | apply keep_alloc) | exact HK.out)⟩

-- NOT PRINTED: function 37 (witheref6_cursor_number)

/-! ### witheref6_Mode: function 48 -/
def witheref6_Mode.f (a0 : Int) : Option (ByteArray) := if a0 = 0 then (some (⟨#[114, 108, 120]⟩ : ByteArray)) else (if a0 = 1 then (some (⟨#[97, 99, 113]⟩ : ByteArray)) else (if a0 = 2 then (some (⟨#[114, 101, 108]⟩ : ByteArray)) else (if a0 = 3 then (some (⟨#[97, 99, 113, 114, 101, 108]⟩ : ByteArray)) else (if a0 = 4 then (some (⟨#[115, 99]⟩ : ByteArray)) else (some (⟨#[]⟩ : ByteArray))))))
set_option maxHeartbeats 8000000 in
set_option maxRecDepth 100000 in
theorem witheref6_Mode.calls (a0 : Int) (r : ByteArray) (w : World) (h : witheref6_Mode.f a0 = some r) :
 Calls Try.prog 48 #[.int .i64 a0] w fun e w' => e = .returned (.string r) ∧ Drawn0 w w' := by
 have H : (if a0 = 0 then (some (⟨#[114, 108, 120]⟩ : ByteArray)) else (if a0 = 1 then (some (⟨#[97, 99, 113]⟩ : ByteArray)) else (if a0 = 2 then (some (⟨#[114, 101, 108]⟩ : ByteArray)) else (if a0 = 3 then (some (⟨#[97, 99, 113, 114, 101, 108]⟩ : ByteArray)) else (if a0 = 4 then (some (⟨#[115, 99]⟩ : ByteArray)) else (some (⟨#[]⟩ : ByteArray))))))) = some r := h
 clear h
 by_cases c2 : a0 = 0
 ·rw [if_pos c2] at H
  have c2b0 : (a0 == 0) = true := beq_iff_eq.mpr c2
  have c2b1 : (a0 != 0) = false := bne_eq_false_iff_eq.mpr c2
  clear c2
  obtain rfl := Option.some.inj H
  go_enter Try.func48, Try.ntmps48
  go_wp2
  go_ret
  exact ⟨w9q3, w9q4⟩
 ·rw [if_neg c2] at H
  have c2b0 : (a0 == 0) = false := beq_eq_false_iff_ne.mpr c2
  have c2b1 : (a0 != 0) = true := bne_iff_ne.mpr c2
  by_cases c3 : a0 = 1
  ·rw [if_pos c3] at H
   have c3b0 : (a0 == 1) = true := beq_iff_eq.mpr c3
   have c3b1 : (a0 != 1) = false := bne_eq_false_iff_eq.mpr c3
   clear c3
   obtain rfl := Option.some.inj H
   go_enter Try.func48, Try.ntmps48
   go_wp2
   go_ret
   exact ⟨w9q3, w9q4⟩
  ·rw [if_neg c3] at H
   have c3b0 : (a0 == 1) = false := beq_eq_false_iff_ne.mpr c3
   have c3b1 : (a0 != 1) = true := bne_iff_ne.mpr c3
   by_cases c4 : a0 = 2
   ·rw [if_pos c4] at H
    have c4b0 : (a0 == 2) = true := beq_iff_eq.mpr c4
    have c4b1 : (a0 != 2) = false := bne_eq_false_iff_eq.mpr c4
    clear c4
    obtain rfl := Option.some.inj H
    go_enter Try.func48, Try.ntmps48
    go_wp2
    go_ret
    exact ⟨w9q3, w9q4⟩
   ·rw [if_neg c4] at H
    have c4b0 : (a0 == 2) = false := beq_eq_false_iff_ne.mpr c4
    have c4b1 : (a0 != 2) = true := bne_iff_ne.mpr c4
    by_cases c5 : a0 = 3
    ·rw [if_pos c5] at H
     have c5b0 : (a0 == 3) = true := beq_iff_eq.mpr c5
     have c5b1 : (a0 != 3) = false := bne_eq_false_iff_eq.mpr c5
     clear c5
     obtain rfl := Option.some.inj H
     go_enter Try.func48, Try.ntmps48
     go_wp2
     go_ret
     exact ⟨w9q3, w9q4⟩
    ·rw [if_neg c5] at H
     have c5b0 : (a0 == 3) = false := beq_eq_false_iff_ne.mpr c5
     have c5b1 : (a0 != 3) = true := bne_iff_ne.mpr c5
     by_cases c6 : a0 = 4
     ·rw [if_pos c6] at H
      have c6b0 : (a0 == 4) = true := beq_iff_eq.mpr c6
      have c6b1 : (a0 != 4) = false := bne_eq_false_iff_eq.mpr c6
      clear c6
      obtain rfl := Option.some.inj H
      go_enter Try.func48, Try.ntmps48
      go_wp2
      go_ret
      exact ⟨w9q3, w9q4⟩
     ·rw [if_neg c6] at H
      have c6b0 : (a0 == 4) = false := beq_eq_false_iff_ne.mpr c6
      have c6b1 : (a0 != 4) = true := bne_iff_ne.mpr c6
      obtain rfl := Option.some.inj H
      go_enter Try.func48, Try.ntmps48
      go_wp2
      go_ret
      exact ⟨w9q3, w9q4⟩

-- NOT PRINTED: function 88 (witheref6_cursor_mode)

-- NOT PRINTED: function 106 (witheref6_cursor_atom)

-- NOT PRINTED: function 101 (witheref6_cursor_sum)

-- NOT PRINTED: function 89 (witheref6_cursor_expr)

-- NOT PRINTED: function 90 (witheref6_cursor_right)

-- NOT PRINTED: function 64 (witheref6_cursor_stmt)

-- NOT PRINTED: function 39 (witheref6_cursor_block)

-- NOT PRINTED: function 91 (witheref6_cursor_one)

-- NOT PRINTED: function 65 (witheref6_cursor_both)

-- NOT PRINTED: function 40 (witheref6_cursor_cond)

-- NOT PRINTED: function 19 (witheref6_cursor_program)

-- NOT PRINTED: function 10 (witheref6_Parse)

end Go.Proofs.Ytinnldfmbeafiaa.PA
