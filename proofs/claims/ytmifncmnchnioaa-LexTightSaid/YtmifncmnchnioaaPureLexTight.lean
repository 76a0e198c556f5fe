/- LexTight: signs need nothing between them, but two = are one ==; words and numbers side by side are one. For all lists of numbers and all two numbers. -/
import Derived.Test.YtmifncmnchnioaaLexP
import Derived.Test.YtmifncmnchnioaaPLx16
namespace Go.Proofs.Ytmifncmnchnioaa.Pure
open Go.RowKit Go.Proofs.Ytmifncmnchnioaa.PL Go.Proofs.YtmifncmnchnioaaW.PrintWords Go.Proofs.YtmifncmnchnioaaW.PrintLast
set_option linter.unusedVariables false
set_option linter.unusedSimpArgs false

theorem tight_ge : ∀ (ps), (∀ x ∈ ps, GoodB [] x) → ps.length ≤ (flatB [] ps).length
  | [], _ => by simp
  | x :: ps, h => by
    have h1 := tight_ge ps (fun y hy => h y (by simp [hy]))
    have h2 : 0 < x.1.length := List.length_pos_iff.mpr (h x (by simp) []).2.2
    rw [flatB_cons]
    simp
    omega
theorem tight_le : ∀ (ps : List (List UInt8 × Int × Int)), (∀ x ∈ ps, x.1.length ≤ 7) → (flatB [] ps).length ≤ ps.length * 7
  | [], _ => by simp [flatB]
  | x :: ps, h => by
    have h1 := tight_le ps (fun y hy => h y (by simp [hy]))
    have h2 := h x (by simp)
    rw [flatB_cons]
    simp only [List.length_append, List.length_cons, List.length_nil]
    omega
theorem worth_bound : ∀ (l : List UInt8) (m : Int) (j : Nat), (∀ c ∈ l, isDigit c = true) → j + l.length ≤ 18 → 0 ≤ m → m < 10 ^ j → (l.foldl worthStep (m, true)).2 = true
  | [], m, j, _, _, _, _ => rfl
  | c :: l, m, j, h, hl, h0, hm => by
    have hc := h c (by simp)
    simp only [isDigit, Bool.and_eq_true, decide_eq_true_eq] at hc
    simp only [List.length_cons] at hl
    have hp : (10 : Int) ^ j ≤ 10 ^ 17 := by
      have := Nat.pow_le_pow_right (show 0 < 10 by decide) (show j ≤ 17 by omega)
      exact_mod_cast this
    have hd : ((c.toNat : Int) - 48) % 256 = (c.toNat : Int) - 48 := by omega
    rw [List.foldl_cons]
    have : worthStep (m, true) c = (10 * m + ((c.toNat : Int) - 48), true) := by
      unfold worthStep
      rw [if_pos rfl, hd, if_neg (by omega)]
    rw [this]
    exact worth_bound l _ (j + 1) (fun d hd => h d (by simp [hd])) (by omega) (by omega) (by rw [Int.pow_succ]; omega)
theorem lex_one (t : List UInt8) (kd n : Int) (h : TokAt t kd n []) (hl : t.length ≤ 4000) : lexAll (⟨t.toArray⟩ : ByteArray) = ([(⟨kd, (⟨t.toArray⟩ : ByteArray), n, 0⟩ : S37), (⟨4, (⟨#[]⟩ : ByteArray), 0, (t.length : Int)⟩ : S37)], 0, 0) := by
  unfold lexAll
  rw [bytes_size, if_neg (by omega)]
  obtain ⟨m, hm⟩ : ∃ m, t.length = m + 1 := ⟨t.length - 1, by have := List.length_pos_iff.mpr h.2.2; omega⟩
  have h1 := lexS_tok (m + 1) 0 [] t [] kd n gap_nil h
  rw [lexS_end m _ [] gap_nil] at h1
  simp only [List.nil_append, List.append_nil] at h1
  show lexS (t.length + 1) 0 t = _
  rw [hm, h1]
  simp [← hm]
theorem lex_two (t t2 : List UInt8) (kd n kd2 n2 : Int) (h : TokAt t kd n t2) (h2 : TokAt t2 kd2 n2 []) (hl : t.length + t2.length ≤ 4000) : lexAll (⟨(t ++ t2).toArray⟩ : ByteArray) = ([(⟨kd, (⟨t.toArray⟩ : ByteArray), n, 0⟩ : S37), (⟨kd2, (⟨t2.toArray⟩ : ByteArray), n2, (t.length : Int)⟩ : S37), (⟨4, (⟨#[]⟩ : ByteArray), 0, ((t.length + t2.length : Nat) : Int)⟩ : S37)], 0, 0) := by
  unfold lexAll
  rw [bytes_size, List.length_append, if_neg (by omega)]
  have p1 := List.length_pos_iff.mpr h.2.2
  have p2 := List.length_pos_iff.mpr h2.2.2
  obtain ⟨m, hm⟩ : ∃ m, t.length + t2.length = m + 2 := ⟨t.length + t2.length - 2, by omega⟩
  have e1 := lexS_tok (m + 2) 0 [] t t2 kd n gap_nil h
  have e2 := lexS_tok (m + 1) (0 + ([] : List UInt8).length + t.length) [] t2 [] kd2 n2 gap_nil h2
  rw [lexS_end m _ [] gap_nil] at e2
  simp only [List.nil_append, List.append_nil] at e1 e2
  rw [e2] at e1
  show lexS (t.length + t2.length + 1) 0 (t ++ t2) = _
  rw [hm, e1]
  simp
  omega
theorem digits_word (c : UInt8) (hc : isLetter c = true) (l : List UInt8) (h : ∀ d ∈ l, isDigit d = true) : wordLike ([c] ++ l) = true := by
  show (isLetter c && l.all isTail) = true
  simp only [hc, Bool.true_and, List.all_eq_true]
  intro d hd
  simp [isTail, h d hd]
theorem word_at (t rest : List UInt8) (h : wordLike t = true) (hr : ∀ c m, rest = c :: m → isTail c = false) : TokAt t 1 0 rest := by
  refine ⟨tok_word t rest h hr, ?_, fun e => by rw [e] at h; simp [wordLike] at h⟩
  match t with
  | [] => simp [wordLike] at h
  | d :: l =>
    simp only [wordLike, Bool.and_eq_true] at h
    have := letter_facts d h.1
    exact gap_none _ _ this.1 this.2.1
theorem num_at (t rest : List UInt8) (h : ∀ c ∈ t, isDigit c = true) (h0 : t ≠ []) (hl : t.length ≤ 18) (hr : ∀ c m, rest = c :: m → isDigit c = false) : TokAt t 2 (worthAll t).1 rest := by
  refine ⟨tok_digits t rest h h0 (worth_bound t 0 0 h (by omega) (by decide) (by decide)) hr, ?_, h0⟩
  match t, h0 with
  | d :: l, _ =>
    have := digit_facts d (h d (by simp))
    exact gap_none _ _ this.1 this.2.1
theorem tight_loop (x0 : List Int) (hx : ∀ x ∈ x0, (Lit.int .u8 x).wf = true) (hl : x0.length ≤ 30) (a b : Int) (ha : 0 ≤ a ∧ a ≤ 255) (hb : 0 ≤ b ∧ b ≤ 255) : ∀ (d : Nat) (ps : List (List UInt8 × Int × Int)), x0.length - ps.length = d → ps.length ≤ x0.length →
    (∀ x ∈ ps, GoodB [] x) → (∀ x ∈ ps, x.1.length ≤ 7) → Ev (fun k => withelaw6_LexTight.l0 k x0 a b (⟨(flatB [] ps).toArray⟩ : ByteArray) (toksB [] 0 ps) (ps.length : Int)) true := by
  intro d
  induction d with
  | zero =>
    intro ps h1 h2 h3 h4
    have hle := tight_le ps h4
    have hge := tight_ge ps h3
    refine Ev.step (fun k => by simp only [withelaw6_LexTight.l0]; rfl) ?_
    refine ev_else (by omega) (ev_if (by rw [toksB_len]; omega) ?_)
    have hL : lexAll (⟨(flatB [] ps).toArray⟩ : ByteArray) = (toksB [] 0 ps ++ [(⟨4, (⟨#[]⟩ : ByteArray), 0, ((flatB [] ps).length : Int)⟩ : S37)], 0, 0) := by
      unfold lexAll
      rw [bytes_size, if_neg (by omega)]
      have := lexS_flat [] gap_nil ps [] ((flatB [] ps).length + 1) 0 gap_nil h3 (by omega)
      simpa using this
    refine Ev.bind (ev_eq (lex_f _) hL) ?_
    rw [w64 (n := a) (by omega) (by omega), w64 (n := b) (by omega) (by omega)]
    have da := digits_ev a.toNat a.toNat (Nat.le_refl _) (by omega)
    have db := digits_ev b.toNat b.toNat (Nat.le_refl _) (by omega)
    rw [show ((a.toNat : Nat) : Int) = a by omega] at da
    rw [show ((b.toNat : Nat) : Int) = b by omega] at db
    refine Ev.bind da (Ev.bind db ?_)
    have la := digS_len 3 a.toNat (by omega) (by omega)
    have lb := digS_len 3 b.toNat (by omega) (by omega)
    have xa := digits_all a.toNat
    have xb := digits_all b.toNat
    generalize digS a.toNat = X at *
    generalize digS b.toNat = Y at *
    have hX : X ≠ [] := List.length_pos_iff.mp la.2
    have hxy : ∀ c ∈ X ++ Y, isDigit c = true := fun c hc => by rcases List.mem_append.mp hc with h | h; exact xa c h; exact xb c h
    have e1 : ((⟨#[120]⟩ : ByteArray) ++ (⟨X.toArray⟩ : ByteArray)) ++ (⟨Y.toArray⟩ : ByteArray) = (⟨([120] ++ (X ++ Y)).toArray⟩ : ByteArray) := by
      rw [show (⟨#[120]⟩ : ByteArray) = (⟨([120] : List UInt8).toArray⟩ : ByteArray) from rfl, bytes_app, bytes_app]
      simp
    have e2 : (⟨X.toArray⟩ : ByteArray) ++ (⟨Y.toArray⟩ : ByteArray) = (⟨(X ++ Y).toArray⟩ : ByteArray) := bytes_app _ _
    have e3 : ((⟨X.toArray⟩ : ByteArray) ++ (⟨#[120]⟩ : ByteArray)) ++ (⟨Y.toArray⟩ : ByteArray) = (⟨(X ++ ([120] ++ Y)).toArray⟩ : ByteArray) := by
      rw [show (⟨#[120]⟩ : ByteArray) = (⟨([120] : List UInt8).toArray⟩ : ByteArray) from rfl, bytes_app, bytes_app]
      simp
    have e4 : (⟨#[120]⟩ : ByteArray) ++ (⟨Y.toArray⟩ : ByteArray) = (⟨([120] ++ Y).toArray⟩ : ByteArray) := by
      rw [show (⟨#[120]⟩ : ByteArray) = (⟨([120] : List UInt8).toArray⟩ : ByteArray) from rfl, bytes_app]
    have z1 : (⟨#[120]⟩ : ByteArray) ++ (⟨X.toArray⟩ : ByteArray) = (⟨([120] ++ X).toArray⟩ : ByteArray) := by
      rw [show (⟨#[120]⟩ : ByteArray) = (⟨([120] : List UInt8).toArray⟩ : ByteArray) from rfl, bytes_app]
    have z3 : (⟨X.toArray⟩ : ByteArray) ++ (⟨#[120]⟩ : ByteArray) = (⟨(X ++ [120]).toArray⟩ : ByteArray) := by
      rw [show (⟨#[120]⟩ : ByteArray) = (⟨([120] : List UInt8).toArray⟩ : ByteArray) from rfl, bytes_app]
    refine ev_if (by rw [bytes_size]; omega) (ev_if (by rw [z1, bytes_size, bytes_size, List.length_append]; simp; omega) ?_)
    rw [e1]
    refine Ev.bind (ev_eq (lex_f _) (lex_one _ 1 0 (word_at _ [] (digits_word 120 (by decide) _ hxy) (by simp)) (by simp; omega))) ?_
    refine ev_if (by rw [bytes_size, bytes_size]; omega) ?_
    rw [e2]
    refine Ev.bind (ev_eq (lex_f _) (lex_one _ 2 _ (num_at (X ++ Y) [] hxy (by simp [hX]) (by simp; omega) (by simp)) (by simp; omega))) ?_
    refine ev_if (by rw [bytes_size]; omega) (ev_if (by rw [z3, bytes_size, bytes_size, List.length_append]; simp; omega) ?_)
    rw [e3]
    refine Ev.bind (ev_eq (lex_f _) (lex_two X ([120] ++ Y) 2 _ 1 0 (num_at X _ xa hX (by omega) (fun c m he => by obtain ⟨rfl, _⟩ := List.cons.inj he; decide)) (word_at _ [] (digits_word 120 (by decide) _ xb) (by simp)) (by simp; omega))) ?_
    refine ev_if (by simp) ?_
    rw [bytes_size]
    refine Ev.bind (same_ev _ (by rw [List.length_append, toksB_len]; simp; omega)) ?_
    rw [e4]
    refine ev_if rfl (ev_if (by simp) (ev_if (by simp) (ev_if (by simp) (ev_if (by simp [rd_T37]) (ev_if (by simp) (ev_if (by simp) (ev_if (by simp) (ev_if (by simp [rd_T37]) (ev_if (by simp) (ev_if (by simp) (ev_if (by simp) (ev_if (by rw [bytes_size]; omega) (ev_eq (Ev.now _) ?_)))))))))))))
    simp [rd_T37]
  | succ d ih =>
    intro ps h1 h2 h3 h4
    have hle := tight_le ps h4
    refine Ev.step (fun k => by simp only [withelaw6_LexTight.l0]; rfl) ?_
    refine ev_if (by omega) (ev_if (by omega) ?_)
    have r1 := rd_u8 x0 hx (ps.length : Int) (by omega) (by omega)
    obtain ⟨t, kd, hev, ht7, ht0, hp, hk⟩ := piece_ev 2 _ (by decide) (by decide) r1.1 r1.2
    obtain rfl := hk rfl
    refine Ev.bind hev ?_
    have hlim : (toksB [] 0 ps).length < 3518437208883 := by rw [toksB_len]; omega
    have good2 : GoodB [] ([61, 61], 3, 0) := fun rest => ⟨tok_eqeq _, gap_none _ _ (by decide) (by decide), by simp⟩
    have next : ∀ (u : List UInt8), GoodB [] (u, 3, 0) → u.length ≤ 7 → Ev (fun k => withelaw6_LexTight.l0 k x0 a b ((⟨(flatB [] ps).toArray⟩ : ByteArray) ++ (⟨u.toArray⟩ : ByteArray)) (toksB [] 0 ps ++ [(⟨3, (⟨u.toArray⟩ : ByteArray), 0, ((⟨(flatB [] ps).toArray⟩ : ByteArray).size : Int)⟩ : S37)]) (wrap64 ((ps.length : Int) + 1))) true := by
      intro u hu hu7
      have := ih (ps ++ [(u, 3, 0)]) (by simp; omega) (by simp; omega)
        (fun x hx => by rcases List.mem_append.mp hx with hx | hx; exact h3 x hx; rw [List.mem_singleton.mp hx]; exact hu)
        (fun x hx => by rcases List.mem_append.mp hx with hx | hx; exact h4 x hx; rw [List.mem_singleton.mp hx]; exact hu7)
      rw [flatB_snoc, toksB_snoc, List.append_nil, Nat.zero_add] at this
      rw [bytes_app, bytes_size, w64 (by omega) (by omega)]
      simpa using this
    have hsz : ∀ m : Nat, m ≤ 7 → (⟨(flatB [] ps).toArray⟩ : ByteArray).size + m ≤ 9223372036854775807 := fun m hm => by rw [bytes_size]; omega
    by_cases c1 : t = [61]
    · refine ev_if (by rw [bytes_list]; exact c1) (ev_if hlim (ev_if (hsz 2 (by omega)) ?_))
      exact next [61, 61] good2 (by decide)
    · refine ev_else (by rw [bytes_list]; exact c1) ?_
      by_cases c2 : t = [61, 61]
      · refine ev_if (by rw [bytes_list]; exact c2) (ev_if hlim (ev_if (hsz 2 (by omega)) ?_))
        exact next [61, 61] good2 (by decide)
      · refine ev_else (by rw [bytes_list]; exact c2) (ev_if hlim (ev_if (by rw [bytes_size t]; exact hsz _ ht7) ?_))
        refine next t ?_ ht7
        rcases hp with ⟨h, _⟩ | ⟨h, _⟩ | ⟨_, h | ⟨c, rfl, hc⟩⟩
        · cases h
        · cases h
        · exact absurd h c2
        · have hf := sign_facts c (sign_mem c hc)
          exact fun rest => ⟨tok_one c _ hc (fun e => absurd (by rw [e]) c1), gap_none _ _ hf.2.2.1 hf.2.2.2.1, by simp⟩
theorem LexTight : withelaw6_LexTight.Pure := by
  intro l0 a b _ _ hx wa wb
  have ha := wf_u8 wa
  have hb := wf_u8 wb
  refine Ev.rounds ?_
  unfold withelaw6_LexTight.f
  refine Ev.bind begun_ev (ev_if rfl ?_)
  by_cases hbig : (l0.length : Int) > 30
  · exact ev_if hbig (Ev.now _)
  · refine ev_else hbig ?_
    exact tight_loop l0 hx (by omega) a b ha hb l0.length [] (by simp) (by simp) (by simp) (by simp)
end Go.Proofs.Ytmifncmnchnioaa.Pure
