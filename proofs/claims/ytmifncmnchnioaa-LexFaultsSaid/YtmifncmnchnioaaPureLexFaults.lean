/- LexFaults: a byte that begins nothing is told by its place, whatever stands ahead of it and behind, but within a remark. For all lists of numbers, all bytes and all places. -/
import Derived.Test.YtmifncmnchnioaaLexP
import Derived.Test.YtmifncmnchnioaaPLx17
namespace Go.Proofs.Ytmifncmnchnioaa.Pure
open Go.RowKit Go.Proofs.Ytmifncmnchnioaa.PL Go.Proofs.YtmifncmnchnioaaW.PrintWords Go.Proofs.YtmifncmnchnioaaW.PrintLast
set_option linter.unusedVariables false
set_option linter.unusedSimpArgs false

theorem ev_ite {α : Type} {c : Prop} [Decidable c] {f g : Nat → Option α} {r : α} (h1 : c → Ev f r) (h2 : ¬ c → Ev g r) : Ev (fun n => if c then f n else g n) r := by
  by_cases h : c
  · exact ev_if h (h1 h)
  · exact ev_else h (h2 h)
def odds : List Int := [123, 125, 40, 41, 59, 44, 58, 61, 60, 43, 45, 47]
/-- A byte that begins nothing. -/
def Odd (c : UInt8) : Prop := isLetter c = false ∧ isDigit c = false ∧ isBlank c = false ∧ isSign c = false ∧ c ≠ 47 ∧ c ≠ 61
theorem odd_tok (c : UInt8) (m : List UInt8) (h : Odd c) : tokS (c :: m) = (0, [], 0, 2) := by
  obtain ⟨h1, h2, h3, h4, h5, h6⟩ := h
  refine tokS_none c m h1 h2 ?_
  unfold signS
  have h2 : two 61 61 (c :: m) = false := by
    match m with
    | [] => rfl
    | d :: m => simp [two, h6]
  rw [if_neg (by rw [h2]; simp)]
  show (if isSign c = true then [c] else []) = []
  rw [if_neg (by rw [h4]; simp)]
theorem fault_at (ps : List (List UInt8 × Int × Int)) (hg : ∀ x ∈ ps, GoodB [32] x) (hl : ps.length ≤ (flatB [32] ps).length) (c : UInt8) (m : List UInt8) (h : Odd c) (hm : (flatB [32] ps ++ (c :: m)).length ≤ 4000) :
    lexAll (⟨(flatB [32] ps ++ (c :: m)).toArray⟩ : ByteArray) = ([], 2, ((flatB [32] ps).length : Int)) := by
  unfold lexAll
  rw [bytes_size, if_neg (by omega)]
  have h1 := lexS_fault [32] (gap_one 32 (by decide)) (c :: m) 2 (gap_none c m h.2.2.1 h.2.2.2.2.1) (by simp) (by rw [odd_tok c m h]) (by decide) ps [] ((flatB [32] ps ++ (c :: m)).length + 1) 0 gap_nil hg (by simp; omega)
  simpa using h1
theorem gap_remark : ∀ (l : List UInt8), (∀ c ∈ l, c.toNat ≠ 10) → gapS true l = l.length
  | [], _ => rfl
  | c :: l, h => by
    have := gap_remark l (fun d hd => h d (by simp [hd]))
    simp [gapS, h c (by simp), this]
theorem remark_at (l : List UInt8) (h : ∀ c ∈ l, c.toNat ≠ 10) (hl : l.length ≤ 4000) : lexAll (⟨([47, 47] ++ l).toArray⟩ : ByteArray) = ([(⟨4, (⟨#[]⟩ : ByteArray), 0, ((l.length + 2 : Nat) : Int)⟩ : S37)], 0, 0) := by
  unfold lexAll
  have hlen : ([47, 47] ++ l).length = l.length + 2 := by simp
  rw [bytes_size, if_neg (by omega)]
  have hg : gapS false ([47, 47] ++ l) = ([47, 47] ++ l).length := by
    rw [hlen]
    show gapS false (47 :: 47 :: l) = _
    have : gapS true l = l.length := gap_remark l h
    simp [gapS, this, isBlank]
  show lexS (([47, 47] ++ l).length + 1) 0 ([47, 47] ++ l) = _
  rw [lexS, hg, List.drop_length, if_pos rfl, hlen]
  simp
theorem ends_ev (ps : List (List UInt8 × Int × Int)) (hg : ∀ x ∈ ps, GoodB [32] x) (hl : ps.length ≤ (flatB [32] ps).length) (c : UInt8) (m : List UInt8) (h : Odd c) (hm : (flatB [32] ps ++ (c :: m)).length ≤ 3900) (h10 : ∀ d ∈ flatB [32] ps ++ (c :: m), d.toNat ≠ 10) :
    Ev (fun k => (lex_Lex.f k (⟨(flatB [32] ps ++ (c :: m)).toArray⟩ : ByteArray)).bind fun bt337 => (if 2 + (⟨(flatB [32] ps ++ (c :: m)).toArray⟩ : ByteArray).size ≤ 9223372036854775807 then ((lex_Lex.f k ((⟨#[47, 47]⟩ : ByteArray) ++ (⟨(flatB [32] ps ++ (c :: m)).toArray⟩ : ByteArray))).bind fun bt343 => (if (bt337.2.1 == 2 && (bt337.2.2 == ((flatB [32] ps).length : Int))) = true then (some (bt343.2.1 == 0 && (bt343.2.2 == 0))) else (none))) else (none))) true := by
  refine Ev.bind (ev_eq (lex_f _) (fault_at ps hg hl c m h (by omega))) (ev_if (by rw [bytes_size]; omega) ?_)
  have e : (⟨#[47, 47]⟩ : ByteArray) ++ (⟨(flatB [32] ps ++ (c :: m)).toArray⟩ : ByteArray) = (⟨([47, 47] ++ (flatB [32] ps ++ (c :: m))).toArray⟩ : ByteArray) := by
    rw [show (⟨#[47, 47]⟩ : ByteArray) = (⟨([47, 47] : List UInt8).toArray⟩ : ByteArray) from rfl, bytes_app]
  rw [e]
  exact Ev.bind (ev_eq (lex_f _) (remark_at _ h10 (by omega))) (ev_if (by simp) (ev_eq (Ev.now _) (by simp)))
theorem flatF_ge (b : List UInt8) : ∀ (ps), (∀ x ∈ ps, GoodB b x) → ps.length ≤ (flatB b ps).length
  | [], _ => by simp
  | x :: ps, h => by
    have h1 := flatF_ge b ps (fun y hy => h y (by simp [hy]))
    have h2 : 0 < x.1.length := List.length_pos_iff.mpr (h x (by simp) []).2.2
    rw [flatB_cons]
    simp
    omega
def Pc (x : List UInt8 × Int × Int) : Prop := GoodB [32] x ∧ x.1.length ≤ 7 ∧ ∀ c ∈ x.1, c.toNat ≠ 10
theorem pcs_len : ∀ (ps : List (List UInt8 × Int × Int)), (∀ x ∈ ps, Pc x) → (flatB [32] ps).length ≤ ps.length * 8
  | [], _ => by simp [flatB]
  | x :: ps, h => by
    have h1 := pcs_len ps (fun y hy => h y (by simp [hy]))
    have h2 := (h x (by simp)).2.1
    rw [flatB_cons]
    simp only [List.length_append, List.length_cons, List.length_nil]
    omega
theorem pcs_ten : ∀ (ps : List (List UInt8 × Int × Int)), (∀ x ∈ ps, Pc x) → ∀ c ∈ flatB [32] ps, c.toNat ≠ 10
  | [], _ => by simp [flatB]
  | x :: ps, h => by
    have h1 := pcs_ten ps (fun y hy => h y (by simp [hy]))
    have h2 := (h x (by simp)).2.2
    intro c hc
    rw [flatB_cons] at hc
    rcases List.mem_append.mp hc with hc | hc
    · exact h2 c hc
    · rcases List.mem_append.mp hc with hc | hc
      · rw [List.mem_singleton.mp hc]; decide
      · exact h1 c hc
theorem tail_ten (c : UInt8) (h : isTail c = true) : c.toNat ≠ 10 := by
  simp only [isTail, Bool.or_eq_true] at h
  rcases h with h | h
  · exact (letter_facts c h).2.2
  · exact (digit_facts c h).2.2
theorem piece_ten (t : List UInt8) (kd a1 : Int) (h : Piece t kd a1) : ∀ c ∈ t, c.toNat ≠ 10 := by
  rcases h with ⟨_, h⟩ | ⟨_, rfl⟩ | ⟨_, h⟩
  · match t with
    | [] => simp
    | d :: l =>
      simp only [wordLike, Bool.and_eq_true, List.all_eq_true] at h
      intro c hc
      rcases List.mem_cons.mp hc with rfl | hc
      · exact (letter_facts _ h.1).2.2
      · exact tail_ten c (h.2 c hc)
  · exact fun c hc => (digit_facts c (digits_all _ c hc)).2.2
  · rcases h with rfl | ⟨d, rfl, h⟩
    · decide
    · intro c hc
      rw [List.mem_singleton.mp hc]
      exact (sign_facts d (sign_mem d h)).2.2.2.2
theorem piece_pc (a0 a1 : Int) (h0 : 0 ≤ a0) (h0' : a0 ≤ 255) (h1 : 0 ≤ a1) (h1' : a1 ≤ 255) : ∃ (t : List UInt8) (kd : Int), Ev (fun k => withelaw6_piece.f k a0 a1) ((⟨t.toArray⟩ : ByteArray), kd) ∧ Pc (t, kd, numOf kd a1) := by
  obtain ⟨t, kd, hev, ht7, ht0, hp, _⟩ := piece_ev a0 a1 h0 h0' h1 h1'
  exact ⟨t, kd, hev, fun rest => piece_at t kd a1 h1 h1' hp 32 rest (by decide) (by decide), ht7, piece_ten t kd a1 hp⟩
theorem snoc_pc {ps : List (List UInt8 × Int × Int)} {x} (h : ∀ y ∈ ps, Pc y) (hx : Pc x) : ∀ y ∈ ps ++ [x], Pc y := fun y hy => by
  rcases List.mem_append.mp hy with hy | hy
  · exact h y hy
  · rw [List.mem_singleton.mp hy]; exact hx
theorem behind_loop (x0 : List Int) (hx : ∀ x ∈ x0, (Lit.int .u8 x).wf = true) (hl : x0.length ≤ 60) (a1 n : Int) (c : UInt8) (hc : Odd c) (h10 : c.toNat ≠ 10) (ps : List (List UInt8 × Int × Int)) (hps : ∀ x ∈ ps, Pc x) (hp30 : ps.length ≤ 30) : ∀ (d : Nat) (qs : List (List UInt8 × Int × Int)), x0.length - 2 * (ps.length + qs.length) ≤ d → 2 * (ps.length + qs.length) ≤ x0.length → n < ((ps.length + qs.length : Nat) : Int) →
    (∀ x ∈ qs, Pc x) → Ev (fun k => withelaw6_LexFaults.l1 k x0 a1 (⟨(flatB [32] ps ++ (c :: 32 :: flatB [32] qs)).toArray⟩ : ByteArray) ((flatB [32] ps).length : Int) n ((2 * (ps.length + qs.length) : Nat) : Int)) true := by
  intro d
  have hp8 := pcs_len ps hps
  have hgood : ∀ x ∈ ps, GoodB [32] x := fun x hx => (hps x hx).1
  have hge := flatF_ge [32] ps hgood
  induction d with
  | zero =>
    intro qs h1 h2 hn h3
    have hq8 := pcs_len qs h3
    refine Ev.step (fun k => by simp only [withelaw6_LexFaults.l1]; rfl) ?_
    rw [w64 (n := ((2 * (ps.length + qs.length) : Nat) : Int) + 1) (by omega) (by omega)]
    refine ev_else (by omega) (ev_else (by omega) ?_)
    refine ends_ev ps hgood hge c (32 :: flatB [32] qs) hc (by simp only [List.length_append, List.length_cons]; omega) ?_
    intro e he
    rcases List.mem_append.mp he with he | he
    · exact pcs_ten ps hps e he
    · rcases List.mem_cons.mp he with rfl | he
      · exact h10
      · rcases List.mem_cons.mp he with rfl | he
        · decide
        · exact pcs_ten qs h3 e he
  | succ d ih =>
    intro qs h1 h2 hn h3
    have hq8 := pcs_len qs h3
    refine Ev.step (fun k => by simp only [withelaw6_LexFaults.l1]; rfl) ?_
    rw [w64 (n := ((2 * (ps.length + qs.length) : Nat) : Int) + 1) (by omega) (by omega)]
    refine ev_ite (fun hmore => ?_) (fun hmore => ?_)
    · have hdiv : Int.tdiv ((2 * (ps.length + qs.length) : Nat) : Int) 2 = ((ps.length + qs.length : Nat) : Int) := by
        rw [Int.tdiv_eq_ediv_of_nonneg (by omega)]
        omega
      rw [hdiv, w64 (n := ((ps.length + qs.length : Nat) : Int)) (by omega) (by omega)]
      refine ev_else (by omega) (ev_if (by omega) (ev_if (by omega) (ev_if (by omega) ?_)))
      have r0 := rd_u8 x0 hx ((2 * (ps.length + qs.length) : Nat) : Int) (by omega) (by omega)
      have r1 := rd_u8 x0 hx (((2 * (ps.length + qs.length) : Nat) : Int) + 1) (by omega) (by omega)
      obtain ⟨t, kd, hev, hpc⟩ := piece_pc _ _ r0.1 r0.2 r1.1 r1.2
      refine Ev.bind hev ?_
      have ht7 : t.length ≤ 7 := hpc.2.1
      have s1 : (⟨(flatB [32] ps ++ (c :: 32 :: flatB [32] qs)).toArray⟩ : ByteArray).size + (⟨t.toArray⟩ : ByteArray).size ≤ 9223372036854775807 := by
        rw [bytes_size, bytes_size]
        simp only [List.length_append, List.length_cons]
        omega
      have s2 : ((⟨(flatB [32] ps ++ (c :: 32 :: flatB [32] qs)).toArray⟩ : ByteArray) ++ (⟨t.toArray⟩ : ByteArray)).size + 1 ≤ 9223372036854775807 := by
        rw [bytes_app, bytes_size]
        simp only [List.length_append, List.length_cons]
        omega
      refine ev_if s1 (ev_if s2 ?_)
      have hnext := ih (qs ++ [(t, kd, numOf kd (rd x0 (((2 * (ps.length + qs.length) : Nat) : Int) + 1)))]) (by simp; omega) (by simp; omega) (by simp; omega) (snoc_pc h3 hpc)
      have e1 : ((⟨(flatB [32] ps ++ (c :: 32 :: flatB [32] qs)).toArray⟩ : ByteArray) ++ (⟨t.toArray⟩ : ByteArray)) ++ (⟨#[32]⟩ : ByteArray) = (⟨(flatB [32] ps ++ (c :: 32 :: flatB [32] (qs ++ [(t, kd, numOf kd (rd x0 (((2 * (ps.length + qs.length) : Nat) : Int) + 1)))]))).toArray⟩ : ByteArray) := by
        rw [show (⟨#[32]⟩ : ByteArray) = (⟨([32] : List UInt8).toArray⟩ : ByteArray) from rfl, bytes_app, bytes_app, flatB_snoc]
        simp
      have e2 : wrap64 (((2 * (ps.length + qs.length) : Nat) : Int) + 2) = ((2 * (ps.length + (qs ++ [(t, kd, numOf kd (rd x0 (((2 * (ps.length + qs.length) : Nat) : Int) + 1)))]).length) : Nat) : Int) := by
        rw [w64 (by omega) (by omega)]
        simp
        omega
      rw [e1, e2]
      exact hnext
    · refine ev_else (by omega) ?_
      refine ends_ev ps hgood hge c (32 :: flatB [32] qs) hc (by simp only [List.length_append, List.length_cons]; omega) ?_
      intro e he
      rcases List.mem_append.mp he with he | he
      · exact pcs_ten ps hps e he
      · rcases List.mem_cons.mp he with rfl | he
        · exact h10
        · rcases List.mem_cons.mp he with rfl | he
          · decide
          · exact pcs_ten qs h3 e he
theorem faults_loop (x0 : List Int) (hx : ∀ x ∈ x0, (Lit.int .u8 x).wf = true) (hl : x0.length ≤ 60) (a1 n : Int) (c : UInt8) (hca : strOfNums [a1] = (⟨([c] : List UInt8).toArray⟩ : ByteArray)) (hc : Odd c) (h10 : c.toNat ≠ 10) : ∀ (d : Nat) (ps : List (List UInt8 × Int × Int)), x0.length - 2 * ps.length ≤ d → 2 * ps.length ≤ x0.length → (ps.length : Int) ≤ n →
    (∀ x ∈ ps, Pc x) → Ev (fun k => withelaw6_LexFaults.l1 k x0 a1 (⟨(flatB [32] ps).toArray⟩ : ByteArray) (-1) n ((2 * ps.length : Nat) : Int)) true := by
  intro d
  induction d with
  | zero =>
    intro ps h1 h2 hn h3
    have hp8 := pcs_len ps h3
    have hgood : ∀ x ∈ ps, GoodB [32] x := fun x hx => (h3 x hx).1
    have hge := flatF_ge [32] ps hgood
    refine Ev.step (fun k => by simp only [withelaw6_LexFaults.l1]; rfl) ?_
    rw [w64 (n := ((2 * ps.length : Nat) : Int) + 1) (by omega) (by omega)]
    refine ev_else (by omega) (ev_if (by omega) (ev_bind0 rfl ?_))
    rw [hca, bytes_app, bytes_size, bytes_size]
    refine ev_if (by simp; omega) ?_
    have := ends_ev ps hgood hge c [] hc (by simp only [List.length_append, List.length_cons, List.length_nil]; omega) (fun e he => by
      rcases List.mem_append.mp he with he | he
      · exact pcs_ten ps h3 e he
      · rw [List.mem_singleton.mp he]; exact h10)
    exact this
  | succ d ih =>
    intro ps h1 h2 hn h3
    have hp8 := pcs_len ps h3
    have hgood : ∀ x ∈ ps, GoodB [32] x := fun x hx => (h3 x hx).1
    have hge := flatF_ge [32] ps hgood
    refine Ev.step (fun k => by simp only [withelaw6_LexFaults.l1]; rfl) ?_
    rw [w64 (n := ((2 * ps.length : Nat) : Int) + 1) (by omega) (by omega)]
    refine ev_ite (fun hmore => ?_) (fun hmore => ?_)
    · have hdiv : Int.tdiv ((2 * ps.length : Nat) : Int) 2 = (ps.length : Int) := by
        rw [Int.tdiv_eq_ediv_of_nonneg (by omega)]
        omega
      rw [hdiv, w64 (n := (ps.length : Int)) (by omega) (by omega)]
      have r0 := rd_u8 x0 hx ((2 * ps.length : Nat) : Int) (by omega) (by omega)
      have r1 := rd_u8 x0 hx (((2 * ps.length : Nat) : Int) + 1) (by omega) (by omega)
      obtain ⟨t, kd, hev, hpc⟩ := piece_pc _ _ r0.1 r0.2 r1.1 r1.2
      have ht7 : t.length ≤ 7 := hpc.2.1
      refine ev_ite (fun here => ?_) (fun here => ?_)
      · refine ev_bind0 rfl ?_
        rw [hca, show (⟨#[32]⟩ : ByteArray) = (⟨([32] : List UInt8).toArray⟩ : ByteArray) from rfl, bytes_app, bytes_app, bytes_size, bytes_size, bytes_size]
        refine ev_if (by simp; omega) (ev_if (by simp; omega) (ev_if (by omega) (ev_if (by omega) (ev_if (by omega) (Ev.bind hev ?_)))))
        rw [bytes_app, bytes_app, bytes_size, bytes_size, bytes_size]
        refine ev_if (by simp; omega) (ev_if (by simp; omega) ?_)
        have hnext := behind_loop x0 hx hl a1 n c hc h10 ps h3 (by omega) x0.length [(t, kd, numOf kd (rd x0 (((2 * ps.length : Nat) : Int) + 1)))] (by omega) (by simp; omega) (by simp; omega) (by simpa using hpc)
        have e1 : (flatB [32] ps ++ [c] ++ [32] ++ t) ++ [32] = flatB [32] ps ++ (c :: 32 :: flatB [32] [(t, kd, numOf kd (rd x0 (((2 * ps.length : Nat) : Int) + 1)))]) := by
          simp [flatB]
        have e2 : wrap64 (((2 * ps.length : Nat) : Int) + 2) = ((2 * (ps.length + [(t, kd, numOf kd (rd x0 (((2 * ps.length : Nat) : Int) + 1)))].length) : Nat) : Int) := by
          rw [w64 (by omega) (by omega)]
          simp
          omega
        rw [e1, e2]
        exact hnext
      · refine ev_if (by omega) (ev_if (by omega) (ev_if (by omega) (Ev.bind hev ?_)))
        rw [show (⟨#[32]⟩ : ByteArray) = (⟨([32] : List UInt8).toArray⟩ : ByteArray) from rfl, bytes_app, bytes_app, bytes_size, bytes_size, bytes_size]
        refine ev_if (by omega) (ev_if (by simp; omega) ?_)
        have hnext := ih (ps ++ [(t, kd, numOf kd (rd x0 (((2 * ps.length : Nat) : Int) + 1)))]) (by simp; omega) (by simp; omega) (by simp; omega) (snoc_pc h3 hpc)
        have e1 : (flatB [32] ps ++ t) ++ [32] = flatB [32] (ps ++ [(t, kd, numOf kd (rd x0 (((2 * ps.length : Nat) : Int) + 1)))]) := by
          rw [flatB_snoc]
          simp
        have e2 : wrap64 (((2 * ps.length : Nat) : Int) + 2) = ((2 * (ps ++ [(t, kd, numOf kd (rd x0 (((2 * ps.length : Nat) : Int) + 1)))]).length : Nat) : Int) := by
          rw [w64 (by omega) (by omega)]
          simp
          omega
        rw [e1, e2]
        exact hnext
    · refine ev_if (by omega) (ev_bind0 rfl ?_)
      rw [hca, bytes_app, bytes_size, bytes_size]
      refine ev_if (by simp; omega) ?_
      have := ends_ev ps hgood hge c [] hc (by simp only [List.length_append, List.length_cons, List.length_nil]; omega) (fun e he => by
        rcases List.mem_append.mp he with he | he
        · exact pcs_ten ps h3 e he
        · rw [List.mem_singleton.mp he]; exact h10)
      exact this
theorem odd_loop (x0 : List Int) (a1 a2 : Int) (hend : a1 ∉ odds → Ev (fun k => if (wrap64 ((wrap64 ((x0.length : Int) / 2)) + 1)) = 0 then (none) else (withelaw6_LexFaults.l1 k x0 a1 (⟨#[]⟩ : ByteArray) (-1) (Int.tmod (wrap64 (a2)) (wrap64 ((wrap64 ((x0.length : Int) / 2)) + 1))) 0)) true) : ∀ (d i : Nat), 12 - i = d → i ≤ 12 → (∀ j, j < i → a1 ≠ odds.getD j 0) → Ev (fun k => withelaw6_LexFaults.l0 k x0 a1 a2 odds 12 (i : Int)) true := by
  intro d
  induction d with
  | zero =>
    intro i h1 h2 h3
    refine Ev.step (fun k => by simp only [withelaw6_LexFaults.l0]; rfl) (ev_else (by omega) (hend ?_))
    intro hm
    obtain ⟨j, hj, he⟩ := List.getElem_of_mem hm
    have hj12 : j < 12 := hj
    refine h3 j (by omega) ?_
    rw [List.getD_eq_getElem?_getD, List.getElem?_eq_getElem hj]
    exact he.symm
  | succ d ih =>
    intro i h1 h2 h3
    refine Ev.step (fun k => by simp only [withelaw6_LexFaults.l0]; rfl) (ev_if (by omega) (ev_if (by omega) (ev_if (by show (i : Int) < 12; omega) ?_)))
    refine ev_ite (fun _ => Ev.now _) (fun hne => ?_)
    rw [w64 (by omega) (by omega)]
    refine ih (i + 1) (by omega) (by omega) (fun j hj => ?_)
    by_cases hji : j < i
    · exact h3 j hji
    · obtain rfl : j = i := by omega
      exact hne
theorem LexFaults : withelaw6_LexFaults.Pure := by
  intro l0 a1 a2 _ _ hx w1 w2
  have h1 := wf_u8 w1
  have h2 := wf_u8 w2
  refine Ev.rounds ?_
  unfold withelaw6_LexFaults.f
  refine Ev.bind begun_ev (ev_if rfl ?_)
  refine ev_ite (fun _ => Ev.now _) (fun hbig => ?_)
  have jt : Ev (fun k => withelaw6_LexFaults.j0 k l0 a1 a2 true) true := Ev.step (fun k => by simp only [withelaw6_LexFaults.j0]; rfl) (ev_if (show true = true from rfl) (Ev.now _))
  have jf : ¬ (48 ≤ a1 ∧ a1 ≤ 57) → ¬ (65 ≤ a1 ∧ a1 ≤ 90) → ¬ (97 ≤ a1 ∧ a1 ≤ 122) → a1 ≠ 32 → a1 ≠ 9 → a1 ≠ 10 → Ev (fun k => withelaw6_LexFaults.j0 k l0 a1 a2 (a1 == 13)) true := by
    intro c1 c2 c3 c4 c5 c6
    by_cases c7 : a1 = 13
    · rw [show (a1 == 13) = true by simp [c7]]
      exact jt
    · rw [show (a1 == 13) = false by simp [c7]]
      refine Ev.step (fun k => by simp only [withelaw6_LexFaults.j0]; rfl) (ev_else (show ¬ (false = true) by decide) (ev_bind0 rfl ?_))
      refine odd_loop l0 a1 a2 (fun hodd => ?_) 12 0 rfl (by omega) (fun j hj => absurd hj (Nat.not_lt_zero j))
      rw [w64 (n := (l0.length : Int) / 2) (by omega) (by omega), w64 (n := (l0.length : Int) / 2 + 1) (by omega) (by omega), w64 (n := a2) (by omega) (by omega)]
      refine ev_else (by omega) ?_
      rw [Int.tmod_eq_emod_of_nonneg h2.1]
      have hpos := Int.emod_nonneg a2 (show (l0.length : Int) / 2 + 1 ≠ 0 by omega)
      have hca : strOfNums [a1] = (⟨([a1.toNat.toUInt8] : List UInt8).toArray⟩ : ByteArray) := rfl
      have hnat : a1.toNat.toUInt8.toNat = a1.toNat := by
        rw [Nat.toUInt8_eq, UInt8.toNat_ofNat']
        omega
      have hn : (a1.toNat : Int) = a1 := by omega
      simp only [odds, List.mem_cons, List.not_mem_nil, or_false, not_or] at hodd
      have hodd' : Odd a1.toNat.toUInt8 := by
        refine ⟨?_, ?_, ?_, ?_, ?_, ?_⟩
        · simp only [isLetter, hnat, Bool.or_eq_false_iff, Bool.and_eq_false_iff, decide_eq_false_iff_not]
          omega
        · simp only [isDigit, hnat, Bool.and_eq_false_iff, decide_eq_false_iff_not]
          omega
        · simp only [isBlank, hnat, Bool.or_eq_false_iff, beq_eq_false_iff_ne]
          omega
        · cases hs : isSign a1.toNat.toUInt8 with
          | false => rfl
          | true =>
            have hm := sign_mem _ hs
            have hm2 : a1.toNat ∈ signs.map UInt8.toNat := by
              rw [← hnat]
              exact List.mem_map_of_mem hm
            rw [show signs.map UInt8.toNat = [123, 125, 40, 41, 59, 44, 58, 61, 60, 43, 45] from rfl] at hm2
            simp only [List.mem_cons, List.not_mem_nil, or_false] at hm2
            omega
        · intro he
          have := congrArg UInt8.toNat he
          rw [hnat] at this
          have h47 : (47 : UInt8).toNat = 47 := rfl
          omega
        · intro he
          have := congrArg UInt8.toNat he
          rw [hnat] at this
          have h61 : (61 : UInt8).toNat = 61 := rfl
          omega
      have := faults_loop l0 hx (by omega) a1 (a2 % ((l0.length : Int) / 2 + 1)) _ hca hodd' (by omega) l0.length [] (by simp) (by simp) (by simpa using hpos) (by simp)
      simpa [flatB] using this
  repeat' (first | exact jt | refine ev_ite (fun _ => ?_) (fun _ => ?_))
  all_goals exact jf (by omega) (by omega) (by omega) (by omega) (by omega) (by omega)
end Go.Proofs.Ytmifncmnchnioaa.Pure
