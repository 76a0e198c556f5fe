/- show's page: a block of statements; walked by hand. -/
import Derived.Test.YtpldhihdlgghlaaDoorSG
namespace Go.Proofs.YtpldhihdlgghlaaDoor.PS
open Go.RowKit Go.Proofs.YtpldhihdlgghlaaDoorW.PrintWords Go.Proofs.YtpldhihdlgghlaaDoorW.PrintLast Go.Proofs.YtpldhihdlgghlaaDoorW.PrintMore
set_option linter.unusedVariables false
set_option linter.unusedSimpArgs false
attribute [local go_sem] cell_set_some
theorem cat_size (k : Nat) (ih : ∀ d l, SX k l → d + k ≤ 101 → (blS k d l).size ≤ 6000000 * cnt k l) (d : Nat) (hd : d + (k + 1) ≤ 101) : ∀ l, SX (k + 1) l → (catS (l.map (stS (blS k) d))).size ≤ 6000000 * cnt (k + 1) l
  | [], _ => Nat.zero_le _
  | s :: l, h => by
    have r := cat_size k ih d hd l (fun x hx => h x (List.mem_cons_of_mem _ hx))
    obtain ⟨h2, h3, h4, h5, h6⟩ := h s (List.mem_cons_self ..)
    have a := stS_size (blS k) d s _ _ (by omega) h2 h3 h4 (ih (d + 1) s.f5 h5 (by omega)) (ih (d + 1) s.f6 h6 (by omega))
    unfold cnt at r ⊢
    simp only [List.map_cons, catS, ByteArray.size_append, List.sum_cons]
    omega
theorem blS_size : ∀ k d l, SX k l → d + k ≤ 101 → (blS k d l).size ≤ 6000000 * cnt k l
  | 0, _, _, h, _ => h.elim
  | k + 1, d, l, h, hd => cat_size k (blS_size k) d hd l h
theorem cell_below_ {w w1 : World} {a : Addr} {v : Value} (h : w.cell? a = some v) (hb : Below w.heap.size w w1) : w1.cell? a = some v := (hb.cell (World.block_lt_of_cell? _ _ h)).trans h
theorem cnt_len (k : Nat) : ∀ l : List S45, l.length ≤ cnt (k + 1) l
  | [] => Nat.zero_le _
  | s :: l => by
    have := cnt_len k l
    unfold cnt at this ⊢
    simp only [List.map_cons, List.sum_cons, List.length_cons]
    omega
theorem IsPG.frz {B g : Nat} {bs : List Value} {d : Int} {w : World} (h : IsPG B g bs d w) : w.frozen? ⟨g, 2, none⟩ = false := by
  obtain ⟨_, p, v, hb⟩ := h.blk
  exact blk_frozen hb 2
theorem cat_snoc : ∀ (l : List ByteArray) (x : ByteArray), catS (l ++ [x]) = catS l ++ x
  | [], x => by
    show x ++ ⟨#[]⟩ = ⟨#[]⟩ ++ x
    exact ba_ext (by simp)
  | y :: l, x => by
    show y ++ catS (l ++ [x]) = y ++ catS l ++ x
    rw [cat_snoc l x, ByteArray.append_assoc]
theorem rd45 {l : List S45} {i : Nat} (h : i < l.length) : l.take (i + 1) = l.take i ++ [rd_T45 l (i : Int)] ∧ rd_T45 l (i : Int) ∈ l := by
  constructor
  · rw [List.take_add_one, List.getElem?_eq_getElem h]
    simp [rd_T45, h]
  · simp [rd_T45, h]
theorem cnt_take (k : Nat) : ∀ (l : List S45) (i : Nat) (h : i < l.length), cnt (k + 1) (l.take i) + (1 + cnt k (rd_T45 l (i : Int)).f5 + cnt k (rd_T45 l (i : Int)).f6) ≤ cnt (k + 1) l := by
  intro l i h
  obtain ⟨e, _⟩ := rd45 h
  have h1 : cnt (k + 1) (l.take (i + 1)) = cnt (k + 1) (l.take i) + (1 + cnt k (rd_T45 l (i : Int)).f5 + cnt k (rd_T45 l (i : Int)).f6) := by
    rw [e]
    simp [cnt]
  have h2 : cnt (k + 1) (l.take (i + 1)) ≤ cnt (k + 1) l := by
    have h3 : cnt (k + 1) l = cnt (k + 1) (l.take (i + 1)) + cnt (k + 1) (l.drop (i + 1)) := by
      unfold cnt
      rw [← List.sum_append, ← List.map_append, List.take_append_drop]
    omega
  omega
theorem fill45 {w : World} {g : Nat} {e0 e1 e2 e3 e4 e5 e6 : Value} (h : w.heap[g]? = some (.cells #[e0, e1, e2, e3, e4, e5, e6] 45 (0, 0))) (v0 v1 v2 v3 v4 v5 v6 : Value) (W : World) (hW : W = ((((((w.setCell ⟨g, 0, none⟩ (v0)).setCell ⟨g, 1, none⟩ (v1)).setCell ⟨g, 2, none⟩ (v2)).setCell ⟨g, 3, none⟩ (v3)).setCell ⟨g, 4, none⟩ (v4)).setCell ⟨g, 5, none⟩ (v5)).setCell ⟨g, 6, none⟩ (v6)) :
    W.heap[g]? = some (.cells #[v0, v1, v2, v3, v4, v5, v6] 45 (0, 0)) ∧ ∀ B, B ≤ g → Below B w W := by
  subst hW
  have b0 := blk_put (cs' := #[v0, e1, e2, e3, e4, e5, e6]) h 0 v0 (by simp)
  have b1 := blk_put (cs' := #[v0, v1, e2, e3, e4, e5, e6]) b0 1 v1 (by simp)
  have b2 := blk_put (cs' := #[v0, v1, v2, e3, e4, e5, e6]) b1 2 v2 (by simp)
  have b3 := blk_put (cs' := #[v0, v1, v2, v3, e4, e5, e6]) b2 3 v3 (by simp)
  have b4 := blk_put (cs' := #[v0, v1, v2, v3, v4, e5, e6]) b3 4 v4 (by simp)
  have b5 := blk_put (cs' := #[v0, v1, v2, v3, v4, v5, e6]) b4 5 v5 (by simp)
  have b6 := blk_put (cs' := #[v0, v1, v2, v3, v4, v5, v6]) b5 6 v6 (by simp)
  exact ⟨b6, fun B hB => (((((((Below.refl B w).setCell hB _).setCell hB _).setCell hB _).setCell hB _).setCell hB _).setCell hB _).setCell hB _⟩
set_option maxHeartbeats 8000000 in
set_option maxRecDepth 100000 in
theorem block_c : ∀ k, BlockAt k
  | 0 => fun w0 g bs d w A c l _ _ _ h => h.elim
  | k + 1 => by
    intro w0 g bs d w A c l h hB0 hd hx hr hc hG hlen
    have IH := block_c k
    have hu53 := Tryd.underlying53
    have hu45 := Tryd.underlying45
    have HP := Aside0.mk h
    have HR := Aside0.mk hr
    have HG := Aside0.mk hG
    have HB := Aside0.mk hB0
    have HX := Aside0.mk hx
    have LEN := Aside0.mk hlen
    have c2 := h.deep
    have f2 := h.frz
    have e1 : wrap64 ((d : Int) + 1) = ((d + 1 : Nat) : Int) := by
      rw [w64 (by omega) (by omega)]
      omega
    have hgB := Aside0.mk h.blk.1
    clear h hr hG hB0 hx hlen
    go_enter Tryd.func19, Tryd.ntmps19
    go_wp2
    try go_simp
    have HP1 := Aside0.mk (show IsPG w0.heap.size g bs ((d + 1 : Nat) : Int) (w.setCell ⟨g, 2, none⟩ (.int .i64 ((d + 1 : Nat) : Int))) from HP.out.setd _)
    have HB1 := Aside0.mk (show Below w0.heap.size w0 (w.setCell ⟨g, 2, none⟩ (.int .i64 ((d + 1 : Nat) : Int))) from HB.out.setCell (p := ⟨g, 2, none⟩) hgB.out _)
    have HK1 := Aside0.mk (show Lib.OthersKept 5 (some g) w (w.setCell ⟨g, 2, none⟩ (.int .i64 ((d + 1 : Nat) : Int))) from (Lib.OthersKept.refl 5 (some g) w).setCell ⟨g, 2, none⟩ rfl _)
    clear HP HB c2 f2
    first | rw [e1] | skip
    go_loopg [15] l.length (fun kq v15 w' => ∃ i : Nat, v15 = .int .i64 (i : Int) ∧ Aside0 (i + kq = l.length) ∧ Aside0 (IsPG w0.heap.size g (bs ++ Lib.strCells (catS ((l.take i).map (stS (blS k) (d + 1))))) ((d + 1 : Nat) : Int) w') ∧ Aside0 (Below w0.heap.size w0 w') ∧ Aside0 (Lib.OthersKept 5 (some g) w w'))
    case atStart => exact ⟨0, rfl, ⟨by omega⟩, ⟨by simpa [catS, cells_nil] using HP1.out⟩, HB1, HK1⟩
    case round =>
      clear HP1 HB1 HK1
      obtain ⟨i, rfl, HI, HP, HB, HK⟩ := hrel
      have hi0 := HI.out
      cases gk with
      | zero =>
        have hi : i = l.length := by omega
        have b1 : decide ((i : Int) < (l.length : Int)) = false := decide_eq_false (by omega)
        have b3 : decide (i < l.length) = false := decide_eq_false (by omega)
        have b4 := eq_false (show ¬ i < l.length by omega)
        have c2 := IsPG.deep HP.out
        have f2 := IsPG.frz HP.out
        have e2 : wrap64 (((d + 1 : Nat) : Int) - 1) = (d : Int) := by
          rw [w64 (by omega) (by omega)]
          omega
        have HQ := Aside0.mk (IsPG.setd HP.out (d : Int))
        rw [hi, List.take_length] at HQ
        clear hi0 HI hi
        go_wp2
        go_end0
        first | rw [e2] | skip
        exact ⟨rfl, HQ.out, HB.out.setCell (p := ⟨g, 2, none⟩) hgB.out _, HK.out.setCell ⟨g, 2, none⟩ rfl _⟩
      | succ k1 =>
        have hi : i < l.length := by omega
        have b1 : decide ((i : Int) < (l.length : Int)) = true := decide_eq_true (by omega)
        have b3 : decide (i < l.length) = true := decide_eq_true hi
        have b4 := eq_true hi
        obtain ⟨ad, A4, c4, A5, c5, A6, c6, rfl, x0, x1, x2, x3, x4, x5, x6, hrest⟩ := at_T45 HR.out (i : Int) (by omega) (by omega)
        simp only [Int.toNat_natCast] at x0 x1 x2 x3 x4 x5 x6
        obtain ⟨l4, r4, l5, r5, l6, r6⟩ := hrest
        obtain ⟨tk, mem⟩ := rd45 hi
        have ct := cnt_take k l i hi
        obtain ⟨h2, h3, h4, h5, h6⟩ := HX.out (rd_T45 l (i : Int)) mem
        have y0 := cell_below_ x0 HB.out; have y1 := cell_below_ x1 HB.out; have y2 := cell_below_ x2 HB.out; have y3 := cell_below_ x3 HB.out; have y4 := cell_below_ x4 HB.out; have y5 := cell_below_ x5 HB.out; have y6 := cell_below_ x6 HB.out
        have tot := cat_size k (blS_size k) (d + 1) (by omega) (l.take i) (fun x hx => HX.out x (List.mem_of_mem_take hx))
        have TOT := Aside0.mk tot
        have p1 := eq_true (show (i : Int) < (l.length : Int) by omega)
        have p0 := eq_true (show 0 ≤ (i : Int) by omega)
        clear x0 x1 x2 x3 x4 x5 x6 hi0 tot
        go_upto_region 4 with ((with_reducible refine gate_dst (N := 5) rfl ?_); refine box_event ?hg (N := 5) ?hd (cs := #[.int .i64 0, .int .i64 0, .string ⟨#[]⟩, .string ⟨#[]⟩, .slice none 0 0, .slice none 0 0, .slice none 0 0]) (t := 45) ?hr ?_; (case hd => rfl); (case hg => rfl); (case hr => first | (go_simp; done) | (go_simp; rfl)); intro g5 hg__ w5 hbox_ hq_; have hg_ := Aside0.mk hg__; clear hg__; have z0_ := blk_celln hbox_ 0 _ rfl; have z1_ := blk_celln hbox_ 1 _ rfl; have z2_ := blk_celln hbox_ 2 _ rfl; have z3_ := blk_celln hbox_ 3 _ rfl; have z4_ := blk_celln hbox_ 4 _ rfl; have z5_ := blk_celln hbox_ 5 _ rfl; have z6_ := blk_celln hbox_ 6 _ rfl; have f0_ := blk_frozen hbox_ 0; have f1_ := blk_frozen hbox_ 1; have f2_ := blk_frozen hbox_ 2; have f3_ := blk_frozen hbox_ 3; have f4_ := blk_frozen hbox_ 4; have f5_ := blk_frozen hbox_ 5; have f6_ := blk_frozen hbox_ 6)
        obtain ⟨F1_, F2_⟩ := fill45 hbox_ (.int .i64 (rd_T45 l (i : Int)).f0) (.int .i64 (rd_T45 l (i : Int)).f1) (.string (rd_T45 l (i : Int)).f2) (.string (rd_T45 l (i : Int)).f3) (.slice A4 (rd_T45 l (i : Int)).f4.length c4) (.slice A5 (rd_T45 l (i : Int)).f5.length c5) (.slice A6 (rd_T45 l (i : Int)).f6.length c6) _ rfl
        replace hq_ := hq_.trans (F2_ _ (Nat.le_of_eq hg_.out.symm))
        clear hg_ hbox_ F2_ z0_ f0_ z1_ f1_ z2_ f2_ z3_ f3_ z4_ f4_ z5_ f5_ z6_ f6_ y0 y1 y2 y3 y4 y5 y6
        generalize ((((((w5.setCell ⟨g5, 0, none⟩ (.int .i64 (rd_T45 l (i : Int)).f0)).setCell ⟨g5, 1, none⟩ (.int .i64 (rd_T45 l (i : Int)).f1)).setCell ⟨g5, 2, none⟩ (.string (rd_T45 l (i : Int)).f2)).setCell ⟨g5, 3, none⟩ (.string (rd_T45 l (i : Int)).f3)).setCell ⟨g5, 4, none⟩ (.slice A4 (rd_T45 l (i : Int)).f4.length c4)).setCell ⟨g5, 5, none⟩ (.slice A5 (rd_T45 l (i : Int)).f5.length c5)).setCell ⟨g5, 6, none⟩ (.slice A6 (rd_T45 l (i : Int)).f6.length c6) = w6 at F1_ hq_ ⊢
        have H5 := Aside0.mk F1_
        replace HP := Aside0.mk (HP.out.below hq_)
        replace HK := Aside0.mk (HK.out.trans (kept_below hq_))
        replace HB := Aside0.mk (below_step HB.out hq_)
        clear F1_ hq_
        have hz0 := blk_celln (H5.out) 0 _ rfl; have hz1 := blk_celln (H5.out) 1 _ rfl; have hz2 := blk_celln (H5.out) 2 _ rfl; have hz3 := blk_celln (H5.out) 3 _ rfl; have hz4 := blk_celln (H5.out) 4 _ rfl; have hz5 := blk_celln (H5.out) 5 _ rfl; have hz6 := blk_celln (H5.out) 6 _ rfl
        go_wp2_with (fail)
        have hW := stmt_c k IH w0 g (bs ++ Lib.strCells (catS ((l.take i).map (stS (blS k) (d + 1))))) (d + 1) _ (rd_T45 l (i : Int)) A4 A5 A6 c4 c5 c6 HP.out HB.out (by omega) r4 l4 r5 l5 r6 l6 h2 h3 h4 h5 h6 HG.out (blS_size k _ _ h5 (by omega)) (blS_size k _ _ h6 (by omega)) (by have := LEN.out; have := TOT.out; (try simp only [List.length_append, Lib.strCells_length]); omega)
        refine hW.mono ?_
        clear hW
        rintro e wz ⟨rfl, q1_, q2_, q3_⟩
        clear hz0 hz1 hz2 hz3 hz4 hz5 hz6
        have ei : wrap64 ((i : Int) + 1) = ((i + 1 : Nat) : Int) := by
          have := HI.out
          have := LEN.out
          have hcl : l.length ≤ cnt (k + 1) l := cnt_len k l
          rw [w64 (by omega) (by omega)]
          omega
        go_wp2
        have HT := Aside0.mk (show bs ++ Lib.strCells (catS ((l.take (i + 1)).map (stS (blS k) (d + 1)))) = bs ++ Lib.strCells (catS ((l.take i).map (stS (blS k) (d + 1)))) ++ Lib.strCells (stS (blS k) (d + 1) (rd_T45 l (i : Int))) from by
            rw [tk, List.map_append, List.map_cons, List.map_nil, cat_snoc, cells_app, ← List.append_assoc])
        have hlt := HI.out
        have R1 := Aside0.mk q1_
        have R2 := Aside0.mk q2_
        have R3 := Aside0.mk (HK.out.trans q3_)
        rw [ei]
        clear q1_ q2_ q3_ HP HB HK H5 TOT l4 r4 l5 r5 l6 r6 tk mem ct h2 h3 h4 h5 h6 p1 p0 b1 b3 b4 hi ei e1 HX HR HG LEN IH
        go_roundg k1
        case measure => exact Nat.lt_succ_self _
        case rel => exact ⟨i + 1, rfl, ⟨Nat.add_right_comm i 1 k1 ▸ Nat.add_assoc i k1 1 ▸ hlt⟩, ⟨HT.out ▸ R1.out⟩, R2, R3⟩
end Go.Proofs.YtpldhihdlgghlaaDoor.PS
