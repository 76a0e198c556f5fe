/- LexParts: tokens with blanks, ends of lines or remarks between them are just these, each where it stands. For all lists of numbers and all ways to part. -/
import Derived.Test.YtmifncmnchnioaaLexP
import Derived.Test.YtmifncmnchnioaaPLx15
namespace Go.Proofs.Ytmifncmnchnioaa.Pure
open Go.RowKit Go.Proofs.Ytmifncmnchnioaa.PL Go.Proofs.YtmifncmnchnioaaW.PrintWords Go.Proofs.YtmifncmnchnioaaW.PrintLast
set_option linter.unusedVariables false
set_option linter.unusedSimpArgs false

theorem flatB_ge (b : List UInt8) : ∀ (ps), (∀ x ∈ ps, GoodB b x) → ps.length ≤ (flatB b ps).length
  | [], _ => by simp
  | x :: ps, h => by
    have h1 := flatB_ge b ps (fun y hy => h y (by simp [hy]))
    have h2 : 0 < x.1.length := List.length_pos_iff.mpr (h x (by simp) []).2.2
    rw [flatB_cons]
    simp
    omega
theorem flatB_le (b : List UInt8) (m : Nat) : ∀ (ps), (∀ x ∈ ps, x.1.length ≤ m) → (flatB b ps).length ≤ ps.length * (m + b.length)
  | [], _ => by simp [flatB]
  | x :: ps, h => by
    have h1 := flatB_le b m ps (fun y hy => h y (by simp [hy]))
    have h2 := h x (by simp)
    rw [flatB_cons]
    simp only [List.length_append, List.length_cons]
    rw [Nat.succ_mul]
    omega
def betweens : List ByteArray := [(⟨#[32]⟩ : ByteArray), (⟨#[10]⟩ : ByteArray), (⟨#[9, 32, 13, 10]⟩ : ByteArray), (⟨#[32, 47, 47, 32, 61, 32, 108, 111, 97, 100, 32, 63, 10]⟩ : ByteArray), (⟨#[47, 47, 10]⟩ : ByteArray)]
def Between (b : List UInt8) : Prop := isGap b ∧ b.length ≤ 13 ∧ ∃ c m, b = c :: m ∧ isTail c = false ∧ c ≠ 61
theorem betweens_are : ∀ x ∈ betweens, Between x.data.toList := by
  intro x hx
  simp only [betweens, List.mem_cons, List.not_mem_nil, or_false] at hx
  rcases hx with rfl | rfl | rfl | rfl | rfl
  · exact ⟨gap_one _ (by decide), by decide, 32, [], rfl, by decide, by decide⟩
  · exact ⟨gap_one _ (by decide), by decide, 10, [], rfl, by decide, by decide⟩
  · exact ⟨gap_app [9] [32, 13, 10] (gap_one _ (by decide)) (gap_app [32] [13, 10] (gap_one _ (by decide)) (gap_app [13] [10] (gap_one _ (by decide)) (gap_one _ (by decide)))), by decide, 9, [32, 13, 10], rfl, by decide, by decide⟩
  · refine ⟨fun rest => ?_, by decide, 32, [47, 47, 32, 61, 32, 108, 111, 97, 100, 32, 63, 10], rfl, by decide, by decide⟩
    show gapS false (32 :: 47 :: 47 :: 32 :: 61 :: 32 :: 108 :: 111 :: 97 :: 100 :: 32 :: 63 :: 10 :: rest) = 13 + _
    simp [gapS, isBlank]
    omega
  · refine ⟨fun rest => ?_, by decide, 47, [47, 10], rfl, by decide, by decide⟩
    show gapS false (47 :: 47 :: 10 :: rest) = 3 + _
    simp [gapS, isBlank]
    omega
theorem parts_loop (x0 : List Int) (hx : ∀ x ∈ x0, (Lit.int .u8 x).wf = true) (hl : x0.length ≤ 60) (b : List UInt8) (hb : Between b) : ∀ (d : Nat) (ps : List (List UInt8 × Int × Int)), x0.length - 2 * ps.length ≤ d → 2 * ps.length ≤ x0.length →
    (∀ x ∈ ps, GoodB b x) → (∀ x ∈ ps, x.1.length ≤ 7) → Ev (fun k => withelaw6_LexParts.l0 k x0 (⟨b.toArray⟩ : ByteArray) (⟨(b ++ flatB b ps).toArray⟩ : ByteArray) (toksB b b.length ps) ((2 * ps.length : Nat) : Int)) true := by
  obtain ⟨hgap, hb13, c, m, rfl, hct, hc61⟩ := hb
  intro d
  induction d with
  | zero => 
    intro ps h1 h2 h3 h4
    have hle := flatB_le (c :: m) 7 ps h4
    have hge := flatB_ge (c :: m) ps h3
    have hps : ps.length ≤ 30 := by omega
    have hsz : ps.length * (7 + (c :: m).length) ≤ 30 * 20 := Nat.mul_le_mul hps (by omega)
    refine Ev.step (fun k => by simp only [withelaw6_LexParts.l0]; rfl) ?_
    rw [w64 (by omega) (by omega)]
    refine ev_else (by omega) (ev_if (by rw [toksB_len]; omega) ?_)
    have hL : lexAll (⟨((c :: m) ++ flatB (c :: m) ps).toArray⟩ : ByteArray) = (toksB (c :: m) (c :: m).length ps ++ [(⟨4, (⟨#[]⟩ : ByteArray), 0, (((c :: m).length + (flatB (c :: m) ps).length : Nat) : Int)⟩ : S37)], 0, 0) := by
      unfold lexAll
      rw [bytes_size, List.length_append, if_neg (by omega)]
      show lexS _ _ ((c :: m) ++ flatB (c :: m) ps) = _
      rw [lexS_flat (c :: m) hgap ps (c :: m) _ 0 hgap h3 (by omega), Nat.zero_add]
    refine Ev.bind (ev_eq (lex_f _) hL) (ev_if (by simp) ?_)
    rw [bytes_size, List.length_append]
    exact Ev.bind (same_ev _ (by rw [List.length_append, toksB_len]; simp; omega)) (Ev.now _)
  | succ d ih =>
    intro ps h1 h2 h3 h4
    have hle := flatB_le (c :: m) 7 ps h4
    have hge := flatB_ge (c :: m) ps h3
    have hps : ps.length ≤ 30 := by omega
    have hsz : ps.length * (7 + (c :: m).length) ≤ 30 * 20 := Nat.mul_le_mul hps (by omega)
    by_cases hmore : 2 * ps.length + 1 < x0.length
    · refine Ev.step (fun k => by simp only [withelaw6_LexParts.l0]; rfl) ?_
      rw [w64 (n := ((2 * ps.length : Nat) : Int) + 1) (by omega) (by omega)]
      refine ev_if (by omega) (ev_if (by omega) (ev_if (by omega) (ev_if (by omega) ?_)))
      have r0 := rd_u8 x0 hx ((2 * ps.length : Nat) : Int) (by omega) (by omega)
      have r1 := rd_u8 x0 hx (((2 * ps.length : Nat) : Int) + 1) (by omega) (by omega)
      obtain ⟨t, kd, hev, ht7, ht0, hp, _⟩ := piece_ev _ _ r0.1 r0.2 r1.1 r1.2
      refine Ev.bind hev ?_
      have hgood : GoodB (c :: m) (t, kd, numOf kd (rd x0 (((2 * ps.length : Nat) : Int) + 1))) := fun rest => piece_at t kd _ r1.1 r1.2 hp c (m ++ rest) hct hc61
      have hnext := ih (ps ++ [(t, kd, numOf kd (rd x0 (((2 * ps.length : Nat) : Int) + 1)))]) (by simp; omega) (by simp; omega)
        (fun x hx => by rcases List.mem_append.mp hx with hx | hx; exact h3 x hx; rw [List.mem_singleton.mp hx]; exact hgood)
        (fun x hx => by rcases List.mem_append.mp hx with hx | hx; exact h4 x hx; rw [List.mem_singleton.mp hx]; exact ht7)
      rw [flatB_snoc, toksB_snoc] at hnext
      have e1 : (((⟨((c :: m) ++ flatB (c :: m) ps).toArray⟩ : ByteArray) ++ (⟨t.toArray⟩ : ByteArray)) ++ (⟨(c :: m).toArray⟩ : ByteArray)) = (⟨((c :: m) ++ (flatB (c :: m) ps ++ (t ++ (c :: m)))).toArray⟩ : ByteArray) := by
        rw [bytes_app, bytes_app]
        simp
      have e2 : wrap64 (((2 * ps.length : Nat) : Int) + 2) = ((2 * (ps ++ [(t, kd, numOf kd (rd x0 (((2 * ps.length : Nat) : Int) + 1)))]).length : Nat) : Int) := by
        rw [w64 (by omega) (by omega)]
        simp
        omega
      have hz : ((⟨((c :: m) ++ flatB (c :: m) ps).toArray⟩ : ByteArray).size : Int) = (((c :: m).length + (flatB (c :: m) ps).length : Nat) : Int) := by rw [bytes_size, List.length_append]
      have s1 : (⟨((c :: m) ++ flatB (c :: m) ps).toArray⟩ : ByteArray).size + (⟨t.toArray⟩ : ByteArray).size ≤ 9223372036854775807 := by rw [bytes_size, bytes_size, List.length_append]; omega
      have s2 : ((⟨((c :: m) ++ flatB (c :: m) ps).toArray⟩ : ByteArray) ++ (⟨t.toArray⟩ : ByteArray)).size + (⟨(c :: m).toArray⟩ : ByteArray).size ≤ 9223372036854775807 := by rw [bytes_app, bytes_size, bytes_size, List.length_append, List.length_append]; omega
      by_cases hk : kd = 2
      · refine ev_if hk (ev_if (by rw [toksB_len]; omega) (ev_if s1 (ev_if s2 ?_)))
        rw [e1, e2, hz, w64 (n := rd x0 _) (by omega) (by omega)]
        have : numOf kd (rd x0 (((2 * ps.length : Nat) : Int) + 1)) = rd x0 (((2 * ps.length : Nat) : Int) + 1) := if_pos hk
        rw [this] at hnext ⊢
        exact hnext
      · refine ev_else hk (ev_if (by rw [toksB_len]; omega) (ev_if s1 (ev_if s2 ?_)))
        rw [e1, e2, hz]
        have : numOf kd (rd x0 (((2 * ps.length : Nat) : Int) + 1)) = 0 := if_neg hk
        rw [this] at hnext ⊢
        exact hnext
    · refine Ev.step (fun k => by simp only [withelaw6_LexParts.l0]; rfl) ?_
      rw [w64 (by omega) (by omega)]
      refine ev_else (by omega) (ev_if (by rw [toksB_len]; omega) ?_)
      have hL : lexAll (⟨((c :: m) ++ flatB (c :: m) ps).toArray⟩ : ByteArray) = (toksB (c :: m) (c :: m).length ps ++ [(⟨4, (⟨#[]⟩ : ByteArray), 0, (((c :: m).length + (flatB (c :: m) ps).length : Nat) : Int)⟩ : S37)], 0, 0) := by
        unfold lexAll
        rw [bytes_size, List.length_append, if_neg (by omega)]
        show lexS _ _ ((c :: m) ++ flatB (c :: m) ps) = _
        rw [lexS_flat (c :: m) hgap ps (c :: m) _ 0 hgap h3 (by omega), Nat.zero_add]
      refine Ev.bind (ev_eq (lex_f _) hL) (ev_if (by simp) ?_)
      rw [bytes_size, List.length_append]
      exact Ev.bind (same_ev _ (by rw [List.length_append, toksB_len]; simp; omega)) (Ev.now _)
theorem LexParts : withelaw6_LexParts.Pure := by
  intro l0 a1 _ _ hx w1
  have h1 := wf_u8 w1
  refine Ev.rounds ?_
  unfold withelaw6_LexParts.f
  refine Ev.bind begun_ev (ev_if rfl ?_)
  by_cases hbig : (l0.length : Int) > 60
  · exact ev_if hbig (Ev.now _)
  · refine ev_else hbig (ev_bind0 rfl ?_)
    have hm : Int.tmod a1 5 = a1 % 5 := Int.tmod_eq_emod_of_nonneg h1.1
    rw [hm]
    have hmem := rdOf_mem betweens ByteArray.empty (a1 % 5) (by omega) (by show a1 % 5 < 5; omega)
    have hb := betweens_are _ hmem
    refine ev_if (by omega) (ev_if (by show a1 % 5 < 5; omega) ?_)
    have hlen : l0.length ≤ 60 := by omega
    have := parts_loop l0 hx hlen _ hb l0.length [] (by simp) (by simp) (by simp) (by simp)
    have e : (⟨(rdOf ByteArray.empty betweens (a1 % 5)).data.toList.toArray⟩ : ByteArray) = rdOf ByteArray.empty betweens (a1 % 5) := Go.Lib.mk_data _
    simp only [flatB, List.flatMap_nil, List.append_nil, toksB, e] at this
    exact this
end Go.Proofs.Ytmifncmnchnioaa.Pure
