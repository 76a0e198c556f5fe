/- The document's program comes to the same text. -/
import Derived.Test.YtpldhihdlgghlaaDoorSL
import Derived.Test.YtpldhihdlgghlaaDoorSJ
import Derived.Test.YtpldhihdlgghlaaDoorPSx14
namespace Go.Proofs.YtpldhihdlgghlaaDoor.PS
open Go.RowKit Go.Proofs.YtpldhihdlgghlaaDoorW.PrintWords Go.Proofs.YtpldhihdlgghlaaDoorW.PrintLast Go.Proofs.YtpldhihdlgghlaaDoorW.PrintMore
set_option linter.unusedVariables false
set_option linter.unusedSimpArgs false
theorem line0 (l : List ByteArray) : lineS 0 l = joinS l ++ (⟨#[10]⟩ : ByteArray) := by
  unfold lineS
  have e : inS 0 = ⟨#[]⟩ := rfl
  rw [e, nil_cat]
section
variable {nm : ByteArray} {vals : Int} {li : List S42} {lt : List (List S45)} {c : S26} (ask : Int)
theorem tail_ev (hx : PX nm vals li lt c) : ∀ m j acc, j + m = lt.length → acc.size ≤ 20000 + 2000000000 * j → Ev (fun n => witheref6_Prog.l1 n acc (j : Int) nm vals li lt ask c.f0 c.f1 c.f2 c.f3 c.f4) (acc ++ catS ((lt.drop j).map thrS) ++ lineS 0 [askS ask, cdS 13 c])
  | 0, j, acc, h, ha => by
    obtain ⟨x0, x1, x2, x3, x4, x5, x6⟩ := hx
    have sc := Nat.le_trans (cdS_size 13 c x6) (bndC_le 13 (by decide))
    refine Ev.step (fun n => by simp only [witheref6_Prog.l1]; rfl) (ev_else (by omega) ?_)
    rw [List.drop_of_length_le (by omega), List.map_nil, cat_nil, line0]
    by_cases c1 : ask = 1
    · refine ev_if c1 ?_
      iterate 2 refine ev_if (by ((try simp only [ByteArray.size_append, szm, List.size_toArray, List.length_cons, List.length_nil]); omega)) ?_
      refine Ev.bind (cond_ev 13 c x6 (by decide)) ?_
      iterate 2 refine ev_if (by ((try simp only [ByteArray.size_append, szm, List.size_toArray, List.length_cons, List.length_nil]); omega)) ?_
      refine ev_eq (Ev.now _) ?_
      rw [askS, if_pos c1]
      ((try unfold lineS); (try simp only [join1, join2, join3, join4, join5, join6]); apply ba_ext; simp only [da, List.append_assoc, List.cons_append, List.nil_append])
    refine ev_else c1 ?_
    by_cases c2 : ask = 2
    · refine ev_if c2 ?_
      iterate 2 refine ev_if (by ((try simp only [ByteArray.size_append, szm, List.size_toArray, List.length_cons, List.length_nil]); omega)) ?_
      refine Ev.bind (cond_ev 13 c x6 (by decide)) ?_
      iterate 2 refine ev_if (by ((try simp only [ByteArray.size_append, szm, List.size_toArray, List.length_cons, List.length_nil]); omega)) ?_
      refine ev_eq (Ev.now _) ?_
      rw [askS, if_neg c1, if_pos c2]
      ((try unfold lineS); (try simp only [join1, join2, join3, join4, join5, join6]); apply ba_ext; simp only [da, List.append_assoc, List.cons_append, List.nil_append])
    refine ev_else c2 ?_
    refine ev_if (by ((try simp only [ByteArray.size_append, szm, List.size_toArray, List.length_cons, List.length_nil]); omega)) ?_
    refine Ev.bind (cond_ev 13 c x6 (by decide)) ?_
    iterate 2 refine ev_if (by ((try simp only [ByteArray.size_append, szm, List.size_toArray, List.length_cons, List.length_nil]); omega)) ?_
    refine ev_eq (Ev.now _) ?_
    rw [askS, if_neg c1, if_neg c2]
    ((try unfold lineS); (try simp only [join1, join2, join3, join4, join5, join6]); apply ba_ext; simp only [da, List.append_assoc, List.cons_append, List.nil_append])
  | m + 1, j, acc, h, ha => by
    have hx' := hx
    obtain ⟨x0, x1, x2, x3, x4, x5, x6⟩ := hx'
    have hj : j < lt.length := by omega
    obtain ⟨tk, mem⟩ := rd8 hj
    have dr : lt.drop j = rd_L8 lt (j : Int) :: lt.drop (j + 1) := by
      rw [List.drop_eq_getElem_cons hj]
      simp [rd_L8, hj]
    rw [dr]
    refine Ev.step (fun n => by simp only [witheref6_Prog.l1]; rfl) (ev_if (by omega) ?_)
    generalize rd_L8 lt (j : Int) = X at *
    obtain ⟨x7, x8⟩ := x5 X mem
    have b := blS_size 13 1 X x7 (by decide)
    refine ev_if (by omega) (ev_if (by omega) (Ev.bind (lines_ev 13 1 X x7 (by decide) x8) ?_))
    iterate 2 refine ev_if (by ((try simp only [ByteArray.size_append, szm, List.size_toArray, List.length_cons, List.length_nil]); omega)) ?_
    rw [w64 (by omega) (by omega)]
    refine ev_eq (tail_ev hx m (j + 1) _ (by omega) (by ((try simp only [ByteArray.size_append, szm, List.size_toArray, List.length_cons, List.length_nil]); omega))) ?_
    simp only [List.map_cons, catS, thrS, line0]
    ((try unfold lineS); (try simp only [join1, join2, join3, join4, join5, join6]); apply ba_ext; simp only [da, List.append_assoc, List.cons_append, List.nil_append])
theorem init_ev (hx : PX nm vals li lt c) : ∀ m i acc, i + m = li.length → acc.size ≤ 1000 + 1000 * i → Ev (fun n => witheref6_Prog.l0 n acc (i : Int) nm vals li lt ask c.f0 c.f1 c.f2 c.f3 c.f4) (acc ++ catS ((li.drop i).map initS) ++ catS (lt.map thrS) ++ lineS 0 [askS ask, cdS 13 c])
  | 0, i, acc, h, ha => by
    have x2 := hx.2.2.1
    refine Ev.step (fun n => by simp only [witheref6_Prog.l0]; rfl) (ev_else (by omega) ?_)
    rw [List.drop_of_length_le (by omega), List.map_nil, cat_nil]
    have := tail_ev ask hx lt.length 0 acc (by omega) (by omega)
    rw [List.drop_zero] at this
    exact this
  | m + 1, i, acc, h, ha => by
    have hx' := hx
    obtain ⟨x0, x1, x2, x3, x4, x5, x6⟩ := hx'
    have hi : i < li.length := by omega
    obtain ⟨tk, mem⟩ := rd42 hi
    have dr : li.drop i = rd_T42 li (i : Int) :: li.drop (i + 1) := by
      rw [List.drop_eq_getElem_cons hi]
      simp [rd_T42, hi]
    rw [dr]
    refine Ev.step (fun n => by simp only [witheref6_Prog.l0]; rfl) (ev_if (by omega) ?_)
    generalize rd_T42 li (i : Int) = X at *
    obtain ⟨x7, x8⟩ := x4 X mem
    have sv := it_size x8
    refine ev_if (by omega) (ev_if (by omega) ?_)
    iterate 2 refine ev_if (by ((try simp only [ByteArray.size_append, szm, List.size_toArray, List.length_cons, List.length_nil]); omega)) ?_
    refine Ev.bind (dig_f x8) ?_
    iterate 2 refine ev_if (by ((try simp only [ByteArray.size_append, szm, List.size_toArray, List.length_cons, List.length_nil]); omega)) ?_
    rw [w64 (by omega) (by omega)]
    refine ev_eq (init_ev hx m (i + 1) _ (by omega) (by ((try simp only [ByteArray.size_append, szm, List.size_toArray, List.length_cons, List.length_nil]); omega))) ?_
    simp only [List.map_cons, catS, initS, line0]
    ((try unfold lineS); (try simp only [join1, join2, join3, join4, join5, join6]); apply ba_ext; simp only [da, List.append_assoc, List.cons_append, List.nil_append])
theorem prog_ev (hx : PX nm vals li lt c) : Ev (fun n => witheref6_Prog.f n nm vals li lt ask c.f0 c.f1 c.f2 c.f3 c.f4) (prS nm vals li lt ask c) := by
  have hx' := hx
  obtain ⟨x0, x1, x2, x3, x4, x5, x6⟩ := hx'
  have sv := it_size x1
  unfold witheref6_Prog.f
  iterate 2 refine ev_if (by ((try simp only [ByteArray.size_append, szm, List.size_toArray, List.length_cons, List.length_nil]); omega)) ?_
  refine Ev.bind (dig_f x1) ?_
  iterate 2 refine ev_if (by ((try simp only [ByteArray.size_append, szm, List.size_toArray, List.length_cons, List.length_nil]); omega)) ?_
  refine ev_eq (init_ev ask hx li.length 0 _ (by omega) (by ((try simp only [ByteArray.size_append, szm, List.size_toArray, List.length_cons, List.length_nil]); omega))) ?_
  rw [List.drop_zero, prS]
  simp only [line0]
  ((try unfold lineS); (try simp only [join1, join2, join3, join4, join5, join6]); apply ba_ext; simp only [da, List.append_assoc, List.cons_append, List.nil_append])
end
end Go.Proofs.YtpldhihdlgghlaaDoor.PS
