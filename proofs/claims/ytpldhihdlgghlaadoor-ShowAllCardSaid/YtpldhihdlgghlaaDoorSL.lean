/- The document's lines come to the same texts. -/
import Derived.Test.YtpldhihdlgghlaaDoorSK
import Derived.Test.YtpldhihdlgghlaaDoorSH
import Derived.Test.YtpldhihdlgghlaaDoorPSx13
namespace Go.Proofs.YtpldhihdlgghlaaDoor.PS
open Go.RowKit Go.Proofs.YtpldhihdlgghlaaDoorW.PrintWords Go.Proofs.YtpldhihdlgghlaaDoorW.PrintLast Go.Proofs.YtpldhihdlgghlaaDoorW.PrintMore
set_option linter.unusedVariables false
set_option linter.unusedSimpArgs false
theorem mode_ref (m : Int) : witheref6_Mode.f m = some (modeS m) := by
  unfold witheref6_Mode.f modeS
  repeat' split
  all_goals rfl
theorem rep_snoc (l : List UInt8) : ∀ n, Go.Lib.repeatL l (n + 1) = Go.Lib.repeatL l n ++ l
  | 0 => by simp [Go.Lib.repeatL]
  | n + 1 => by
    have ih := rep_snoc l n
    show l ++ Go.Lib.repeatL l (n + 1) = (l ++ Go.Lib.repeatL l n) ++ l
    rw [ih, List.append_assoc]
theorem inS_succ (d : Nat) : inS (d + 1) = inS d ++ (⟨#[32, 32]⟩ : ByteArray) := by
  unfold inS
  rw [rep_snoc]
  apply ba_ext
  simp
theorem inS_size (d : Nat) : (inS d).size = 2 * d := by
  have e : (inS d).size = (Go.Lib.repeatL (⟨#[32, 32]⟩ : ByteArray).data.toList d).length := by
    unfold inS ByteArray.size
    exact List.size_toArray
  rw [e, Go.Lib.repeatL_length]
  show d * 2 = 2 * d
  omega
theorem in_loop (d : Nat) (hd : d ≤ 1000) : ∀ m i, i + m = d → Ev (fun n => witheref6_in.l0 n (d : Int) (inS i) (i : Int)) (inS d)
  | 0, i, h => by
    refine Ev.step (fun n => by simp only [witheref6_in.l0]; rfl) (ev_else (by omega) ?_)
    have e : i = d := by omega
    rw [e]
    exact Ev.now _
  | m + 1, i, h => by
    have s := inS_size i
    refine Ev.step (fun n => by simp only [witheref6_in.l0]; rfl) (ev_if (by omega) (ev_if (by omega) ?_))
    rw [← inS_succ, w64 (by omega) (by omega)]
    exact in_loop d hd m (i + 1) (by omega)
theorem in_ev (d : Nat) (hd : d ≤ 1000) : Ev (fun n => witheref6_in.f n (d : Int)) (inS d) := by
  unfold witheref6_in.f
  exact in_loop d hd d 0 (by omega)
theorem join1 (a : ByteArray) : joinS [a] = a := ba_ext (by simp [joinS, Go.Lib.join])
theorem join2 (a b : ByteArray) : joinS [a, b] = a ++ (⟨#[32]⟩ : ByteArray) ++ b := ba_ext (by simp [joinS, Go.Lib.join])
theorem join3 (a b c : ByteArray) : joinS [a, b, c] = a ++ (⟨#[32]⟩ : ByteArray) ++ b ++ (⟨#[32]⟩ : ByteArray) ++ c := ba_ext (by simp [joinS, Go.Lib.join])
theorem join4 (a b c d : ByteArray) : joinS [a, b, c, d] = a ++ (⟨#[32]⟩ : ByteArray) ++ b ++ (⟨#[32]⟩ : ByteArray) ++ c ++ (⟨#[32]⟩ : ByteArray) ++ d := ba_ext (by simp [joinS, Go.Lib.join])
theorem join5 (a b c d e : ByteArray) : joinS [a, b, c, d, e] = a ++ (⟨#[32]⟩ : ByteArray) ++ b ++ (⟨#[32]⟩ : ByteArray) ++ c ++ (⟨#[32]⟩ : ByteArray) ++ d ++ (⟨#[32]⟩ : ByteArray) ++ e := ba_ext (by simp [joinS, Go.Lib.join])
theorem join6 (a b c d e f : ByteArray) : joinS [a, b, c, d, e, f] = a ++ (⟨#[32]⟩ : ByteArray) ++ b ++ (⟨#[32]⟩ : ByteArray) ++ c ++ (⟨#[32]⟩ : ByteArray) ++ d ++ (⟨#[32]⟩ : ByteArray) ++ e ++ (⟨#[32]⟩ : ByteArray) ++ f := ba_ext (by simp [joinS, Go.Lib.join])
theorem da (a b : ByteArray) : (a ++ b).data.toList = a.data.toList ++ b.data.toList := by simp
theorem kid_f_ev {l : List S31} (i : Nat) (h : ∀ x ∈ l, EX 13 x) : Ev (fun n => witheref6_kid.f n l (i : Int)) (kidS 13 l i) := by
  unfold witheref6_kid.f
  exact kid_ev (F := witheref6_Expr.f) i (fun x hx => expr_ev 13 x (h x hx) (by decide))
/-- What is said of blocks at a depth. -/
def LinesAt (k : Nat) : Prop := ∀ (d : Nat) (l : List S45), SX k l → d + k ≤ 101 → cnt k l ≤ 300 → Ev (fun n => witheref6_lines.f n l (d : Int)) (blS k d l)
theorem rows_ev (k : Nat) (ih : LinesAt k) (d : Nat) (l : List S45) (hx : SX (k + 1) l) (hd : d + (k + 1) ≤ 101) (hc : cnt (k + 1) l ≤ 300) :
    ∀ m i acc, i + m = l.length → acc.size ≤ 6000000 * cnt (k + 1) (l.take i) → Ev (fun n => witheref6_lines.l0 n l (d : Int) acc (i : Int)) (acc ++ catS ((l.drop i).map (stS (blS k) d)))
  | 0, i, acc, h, _ => by
    refine Ev.step (fun n => by simp only [witheref6_lines.l0]; rfl) (ev_else (by omega) ?_)
    rw [List.drop_of_length_le (by omega)]
    exact ev_eq (Ev.now _) (ba_ext (by simp [catS]))
  | m + 1, i, acc, h, ha => by
    have hi : i < l.length := by omega
    have hl := Nat.le_trans (cnt_len k l) hc
    obtain ⟨tk, mem⟩ := rd45 hi
    have ct := cnt_take k l i hi
    have ct1 : cnt (k + 1) (l.take (i + 1)) = cnt (k + 1) (l.take i) + (1 + cnt k (rd_T45 l (i : Int)).f5 + cnt k (rd_T45 l (i : Int)).f6) := by
      rw [tk]
      simp [cnt]
    have dr : l.drop i = rd_T45 l (i : Int) :: l.drop (i + 1) := by
      rw [List.drop_eq_getElem_cons hi]
      simp [rd_T45, hi]
    rw [dr]
    refine Ev.step (fun n => by simp only [witheref6_lines.l0]; rfl) (ev_if (by omega) (ev_if (by omega) ?_))
    generalize rd_T45 l (i : Int) = X at *
    obtain ⟨h2, h3, h4, h5, h6⟩ := hx X mem
    have b5 := blS_size k (d + 1) X.f5 h5 (by omega)
    have b6 := blS_size k (d + 1) X.f6 h6 (by omega)
    have sS := stS_size (blS k) d X _ _ (by omega) h2 h3 h4 b5 b6
    have fin : ∀ acc', acc' = acc ++ stS (blS k) d X → Ev (fun n => witheref6_lines.l0 n l (d : Int) acc' (wrap64 ((i : Int) + 1))) (acc ++ catS ((X :: l.drop (i + 1)).map (stS (blS k) d))) := by
      rintro acc' rfl
      rw [w64 (by omega) (by omega)]
      refine ev_eq (rows_ev k ih d l hx hd hc m (i + 1) _ (by omega) (by rw [ByteArray.size_append, ct1]; omega)) ?_
      rw [List.map_cons, catS, ByteArray.append_assoc]
    have s0 := Nat.le_trans (kidS_size h4 0) (bnd_le 13 (by decide))
    have s1 := Nat.le_trans (kidS_size h4 1) (bnd_le 13 (by decide))
    have sm := mode_size X.f1
    have si := inS_size d
    refine Ev.bind (kid_f_ev 0 h4) (Ev.bind (in_ev d (by omega)) ?_)
    clear tk mem ct1 dr
    by_cases c1 : X.f0 = 1
    · refine ev_if c1 ?_
      iterate 5 refine ev_if (by ((try simp only [ByteArray.size_append, szm, List.size_toArray, List.length_cons, List.length_nil]); omega)) ?_
      refine fin _ ?_
      rw [stS, if_pos c1]
      ((try unfold lineS); (try simp only [join1, join2, join3, join4, join5, join6]); apply ba_ext; simp only [da, List.append_assoc, List.cons_append, List.nil_append])
    refine ev_else c1 ?_
    by_cases c2 : X.f0 = 2
    · refine ev_if c2 ?_
      iterate 3 refine ev_if (by ((try simp only [ByteArray.size_append, szm, List.size_toArray, List.length_cons, List.length_nil]); omega)) ?_
      refine ev_bind0 (mode_ref X.f1) ?_
      iterate 4 refine ev_if (by ((try simp only [ByteArray.size_append, szm, List.size_toArray, List.length_cons, List.length_nil]); omega)) ?_
      refine fin _ ?_
      rw [stS, if_neg c1, if_pos c2]
      ((try unfold lineS); (try simp only [join1, join2, join3, join4, join5, join6]); apply ba_ext; simp only [da, List.append_assoc, List.cons_append, List.nil_append])
    refine ev_else c2 ?_
    by_cases c3 : X.f0 = 3
    · refine ev_if c3 ?_
      iterate 2 refine ev_if (by ((try simp only [ByteArray.size_append, szm, List.size_toArray, List.length_cons, List.length_nil]); omega)) ?_
      refine ev_bind0 (mode_ref X.f1) ?_
      iterate 6 refine ev_if (by ((try simp only [ByteArray.size_append, szm, List.size_toArray, List.length_cons, List.length_nil]); omega)) ?_
      refine fin _ ?_
      rw [stS, if_neg c1, if_neg c2, if_pos c3]
      ((try unfold lineS); (try simp only [join1, join2, join3, join4, join5, join6]); apply ba_ext; simp only [da, List.append_assoc, List.cons_append, List.nil_append])
    refine ev_else c3 ?_
    by_cases c4 : X.f0 = 4
    · refine ev_if c4 ?_
      iterate 3 refine ev_if (by ((try simp only [ByteArray.size_append, szm, List.size_toArray, List.length_cons, List.length_nil]); omega)) ?_
      refine ev_bind0 (mode_ref X.f1) ?_
      iterate 6 refine ev_if (by ((try simp only [ByteArray.size_append, szm, List.size_toArray, List.length_cons, List.length_nil]); omega)) ?_
      refine fin _ ?_
      rw [stS, if_neg c1, if_neg c2, if_neg c3, if_pos c4]
      ((try unfold lineS); (try simp only [join1, join2, join3, join4, join5, join6]); apply ba_ext; simp only [da, List.append_assoc, List.cons_append, List.nil_append])
    refine ev_else c4 ?_
    by_cases c5 : X.f0 = 5
    · refine ev_if c5 ?_
      iterate 3 refine ev_if (by ((try simp only [ByteArray.size_append, szm, List.size_toArray, List.length_cons, List.length_nil]); omega)) ?_
      refine ev_bind0 (mode_ref X.f1) ?_
      iterate 6 refine ev_if (by ((try simp only [ByteArray.size_append, szm, List.size_toArray, List.length_cons, List.length_nil]); omega)) ?_
      refine Ev.bind (kid_f_ev 1 h4) ?_
      iterate 2 refine ev_if (by ((try simp only [ByteArray.size_append, szm, List.size_toArray, List.length_cons, List.length_nil]); omega)) ?_
      refine fin _ ?_
      rw [stS, if_neg c1, if_neg c2, if_neg c3, if_neg c4, if_pos c5]
      ((try unfold lineS); (try simp only [join1, join2, join3, join4, join5, join6]); apply ba_ext; simp only [da, List.append_assoc, List.cons_append, List.nil_append])
    refine ev_else c5 ?_
    by_cases c6 : X.f0 = 6
    · refine ev_if c6 ?_
      iterate 2 refine ev_if (by ((try simp only [ByteArray.size_append, szm, List.size_toArray, List.length_cons, List.length_nil]); omega)) ?_
      refine ev_bind0 (mode_ref X.f1) ?_
      iterate 2 refine ev_if (by ((try simp only [ByteArray.size_append, szm, List.size_toArray, List.length_cons, List.length_nil]); omega)) ?_
      refine fin _ ?_
      rw [stS, if_neg c1, if_neg c2, if_neg c3, if_neg c4, if_neg c5, if_pos c6]
      ((try unfold lineS); (try simp only [join1, join2, join3, join4, join5, join6]); apply ba_ext; simp only [da, List.append_assoc, List.cons_append, List.nil_append])
    refine ev_else c6 ?_
    by_cases c7 : X.f0 = 7
    · refine ev_if c7 ?_
      iterate 4 refine ev_if (by ((try simp only [ByteArray.size_append, szm, List.size_toArray, List.length_cons, List.length_nil]); omega)) ?_
      rw [w64 (n := (d : Int) + 1) (by omega) (by omega)]
      refine Ev.bind (ih (d + 1) X.f5 h5 (by omega) (by omega)) ?_
      refine ev_if (by ((try simp only [ByteArray.size_append, szm, List.size_toArray, List.length_cons, List.length_nil]); omega)) ?_
      by_cases hp : X.f6.length > 0
      · refine ev_if (by omega) ?_
        iterate 2 refine ev_if (by ((try simp only [ByteArray.size_append, szm, List.size_toArray, List.length_cons, List.length_nil]); omega)) ?_
        refine Ev.bind (ih (d + 1) X.f6 h6 (by omega) (by omega)) ?_
        iterate 3 refine ev_if (by ((try simp only [ByteArray.size_append, szm, List.size_toArray, List.length_cons, List.length_nil]); omega)) ?_
        refine fin _ ?_
        rw [stS, if_neg c1, if_neg c2, if_neg c3, if_neg c4, if_neg c5, if_neg c6, if_pos c7, if_pos hp]
        ((try unfold lineS); (try simp only [join1, join2, join3, join4, join5, join6]); apply ba_ext; simp only [da, List.append_assoc, List.cons_append, List.nil_append])
      · refine ev_else (by omega) ?_
        iterate 2 refine ev_if (by ((try simp only [ByteArray.size_append, szm, List.size_toArray, List.length_cons, List.length_nil]); omega)) ?_
        refine fin _ ?_
        rw [stS, if_neg c1, if_neg c2, if_neg c3, if_neg c4, if_neg c5, if_neg c6, if_pos c7, if_neg hp]
        ((try unfold lineS); (try simp only [join1, join2, join3, join4, join5, join6]); apply ba_ext; simp only [da, List.append_assoc, List.cons_append, List.nil_append])
    refine ev_else c7 ?_
    refine fin _ ?_
    rw [stS, if_neg c1, if_neg c2, if_neg c3, if_neg c4, if_neg c5, if_neg c6, if_neg c7]
    exact ba_ext (by simp)
theorem lines_ev : ∀ k, LinesAt k
  | 0 => fun d l h => h.elim
  | k + 1 => by
    intro d l hx hd hc
    refine Ev.step (fun n => by simp only [witheref6_lines.f]; rfl) ?_
    refine ev_eq (rows_ev k (lines_ev k) d l hx hd hc l.length 0 ⟨#[]⟩ (by omega) (Nat.zero_le _)) ?_
    rw [List.drop_zero]
    exact ba_ext (by simp [blS])
end Go.Proofs.YtpldhihdlgghlaaDoor.PS
