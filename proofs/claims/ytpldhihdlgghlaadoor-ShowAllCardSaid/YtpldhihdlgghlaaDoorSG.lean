/- show's page: a statement, a block of statements; walked by hand. -/
import Derived.Test.YtpldhihdlgghlaaDoorSF
namespace Go.Proofs.YtpldhihdlgghlaaDoor.PS
open Go.RowKit Go.Proofs.YtpldhihdlgghlaaDoorW.PrintWords Go.Proofs.YtpldhihdlgghlaaDoorW.PrintLast Go.Proofs.YtpldhihdlgghlaaDoorW.PrintMore
set_option linter.unusedVariables false
set_option linter.unusedSimpArgs false
attribute [local go_sem] cell_set_some
set_option maxHeartbeats 8000000 in
set_option maxRecDepth 100000 in
theorem stmt_c (k : Nat) (IH : BlockAt k) (w0 : World) (g : Nat) (bs : List Value) (d : Nat) (w : World) (s : S45) (A4 A5 A6 : Option Addr) (c4 c5 c6 : Nat) (h : IsPG w0.heap.size g bs d w) (hB0 : Below w0.heap.size w0 w) (hd : d + k ≤ 100) (r4 : Kd.C k31 w0 A4 s.f4.length s.f4) (hc4 : s.f4.length ≤ c4) (r5 : Kd.C k45 w0 A5 s.f5.length s.f5) (hc5 : s.f5.length ≤ c5) (r6 : Kd.C k45 w0 A6 s.f6.length s.f6) (hc6 : s.f6.length ≤ c6) (h2 : s.f2.size ≤ 40) (h3 : s.f3.size ≤ 40) (hx : ∀ x ∈ s.f4, EX 13 x) (x5 : SX k s.f5) (x6 : SX k s.f6) (hG : GOk w0) (b5 : (blS k (d + 1) s.f5).size ≤ 6000000 * cnt k s.f5) (b6 : (blS k (d + 1) s.f6).size ≤ 6000000 * cnt k s.f6) (hlen : bs.length + 8000000 * (1 + cnt k s.f5 + cnt k s.f6) ≤ 100000000000000) :
    Calls Tryd.prog 33 #[.pointer (some ⟨g, 0, none⟩), .agg #[.int .i64 s.f0, .int .i64 s.f1, .string s.f2, .string s.f3, .slice A4 s.f4.length c4, .slice A5 s.f5.length c5, .slice A6 s.f6.length c6]] w fun e w' => e = .returned (.tuple #[]) ∧ IsPG w0.heap.size g (bs ++ Lib.strCells (stS (blS k) d s)) d w' ∧ Below w0.heap.size w0 w' ∧ Lib.OthersKept 5 (some g) w w' := by
  have hu45 := Tryd.underlying45
  obtain ⟨T, hT⟩ : ∃ T, stS (blS k) d s = T := ⟨_, rfl⟩
  rw [hT]
  have HP := Aside0.mk h
  have R4 := Aside0.mk r4
  have R5 := Aside0.mk r5
  have R6 := Aside0.mk r6
  have X5 := Aside0.mk x5
  have X6 := Aside0.mk x6
  have HG := Aside0.mk hG
  have HB := Aside0.mk hB0
  have HK := Aside0.mk (Lib.OthersKept.refl 5 (some g) w)
  have B5 := Aside0.mk b5
  have B6 := Aside0.mk b6
  have LEN := Aside0.mk hlen
  clear h r4 r5 r6 x5 x6 hG hB0 b5 b6 hlen
  go_enter Tryd.func33, Tryd.ntmps33
  go_upto_region 2 with ((with_reducible refine gate_dst (N := 3) rfl ?_); refine box_event ?hg (N := 3) ?hd (cs := #[.int .i64 s.f0, .int .i64 s.f1, .string s.f2, .string s.f3, .slice A4 s.f4.length c4, .slice A5 s.f5.length c5, .slice A6 s.f6.length c6]) (t := 45) ?hr ?_; (case hd => rfl); (case hg => rfl); (case hr => first | (go_simp; done) | (go_simp; rfl)); intro g1 hg1 w1 hbox hb1; have HX := Aside0.mk hbox; replace HP := Aside0.mk (HP.out.below hb1); replace HK := Aside0.mk (HK.out.trans (kept_below hb1)); replace HB := Aside0.mk (below_step HB.out hb1); clear hg1 hb1 hbox)
  have hz0 := blk_celln (HX.out) 0 _ rfl; have hz1 := blk_celln (HX.out) 1 _ rfl; have hz2 := blk_celln (HX.out) 2 _ rfl; have hz3 := blk_celln (HX.out) 3 _ rfl; have hz4 := blk_celln (HX.out) 4 _ rfl; have hz5 := blk_celln (HX.out) 5 _ rfl; have hz6 := blk_celln (HX.out) 6 _ rfl
  rcases Bool.eq_false_or_eq_true (s.f0 == 1) with e1 | e1
  · have q1 : s.f0 = 1 := eq_of_beq e1
    unfold stS at hT
    rw [if_pos q1] at hT
    clear q1
    go_wp2_with (fail)
    have hW := set_c w0.heap.size g bs d _ s A4 A5 A6 c4 c5 c6 HP.out (by omega) (Kd.C_below R4.out HB.out) hc4 hx h2 h3 HB.out.size (by have := LEN.out; omega) (GOk.le HG.out HB.out)
    refine hW.mono ?_
    clear hW
    rintro e wz ⟨rfl, q1_, q2_, q3_⟩
    clear hz0 hz1 hz2 hz3 hz4 hz5 hz6
    go_wp2
    go_end0
    exact ⟨rfl, by rw [← hT]; exact Or.inr q1_, HB.out.trans q2_, HK.out.trans q3_⟩
  have n1 : ¬ s.f0 = 1 := fun q => by rw [q] at e1; exact absurd e1 (by decide)
  rcases Bool.eq_false_or_eq_true (s.f0 == 2) with e2 | e2
  · have q2 : s.f0 = 2 := eq_of_beq e2
    unfold stS at hT
    rw [if_neg n1, if_pos q2] at hT
    clear q2
    go_wp2_with (fail)
    have hW := load_c w0.heap.size g bs d _ s A4 A5 A6 c4 c5 c6 HP.out (by omega) (Kd.C_below R4.out HB.out) hc4 hx h2 h3 HB.out.size (by have := LEN.out; omega) (GOk.le HG.out HB.out)
    refine hW.mono ?_
    clear hW
    rintro e wz ⟨rfl, q1_, q2_, q3_⟩
    clear hz0 hz1 hz2 hz3 hz4 hz5 hz6
    go_wp2
    go_end0
    exact ⟨rfl, by rw [← hT]; exact Or.inr q1_, HB.out.trans q2_, HK.out.trans q3_⟩
  have n2 : ¬ s.f0 = 2 := fun q => by rw [q] at e2; exact absurd e2 (by decide)
  rcases Bool.eq_false_or_eq_true (s.f0 == 3) with e3 | e3
  · have q3 : s.f0 = 3 := eq_of_beq e3
    unfold stS at hT
    rw [if_neg n1, if_neg n2, if_pos q3] at hT
    clear q3
    go_wp2_with (fail)
    have hW := store_c w0.heap.size g bs d _ s A4 A5 A6 c4 c5 c6 HP.out (by omega) (Kd.C_below R4.out HB.out) hc4 hx h2 h3 HB.out.size (by have := LEN.out; omega) (GOk.le HG.out HB.out)
    refine hW.mono ?_
    clear hW
    rintro e wz ⟨rfl, q1_, q2_, q3_⟩
    clear hz0 hz1 hz2 hz3 hz4 hz5 hz6
    go_wp2
    go_end0
    exact ⟨rfl, by rw [← hT]; exact Or.inr q1_, HB.out.trans q2_, HK.out.trans q3_⟩
  have n3 : ¬ s.f0 = 3 := fun q => by rw [q] at e3; exact absurd e3 (by decide)
  rcases Bool.eq_false_or_eq_true (s.f0 == 4) with e4 | e4
  · have q4 : s.f0 = 4 := eq_of_beq e4
    unfold stS at hT
    rw [if_neg n1, if_neg n2, if_neg n3, if_pos q4] at hT
    clear q4
    go_wp2_with (fail)
    have hW := add_c w0.heap.size g bs d _ s A4 A5 A6 c4 c5 c6 HP.out (by omega) (Kd.C_below R4.out HB.out) hc4 hx h2 h3 HB.out.size (by have := LEN.out; omega) (GOk.le HG.out HB.out)
    refine hW.mono ?_
    clear hW
    rintro e wz ⟨rfl, q1_, q2_, q3_⟩
    clear hz0 hz1 hz2 hz3 hz4 hz5 hz6
    go_wp2
    go_end0
    exact ⟨rfl, by rw [← hT]; exact Or.inr q1_, HB.out.trans q2_, HK.out.trans q3_⟩
  have n4 : ¬ s.f0 = 4 := fun q => by rw [q] at e4; exact absurd e4 (by decide)
  rcases Bool.eq_false_or_eq_true (s.f0 == 5) with e5 | e5
  · have q5 : s.f0 = 5 := eq_of_beq e5
    unfold stS at hT
    rw [if_neg n1, if_neg n2, if_neg n3, if_neg n4, if_pos q5] at hT
    clear q5
    go_wp2_with (fail)
    have hW := cas_c w0.heap.size g bs d _ s A4 A5 A6 c4 c5 c6 HP.out (by omega) (Kd.C_below R4.out HB.out) hc4 hx h2 h3 HB.out.size (by have := LEN.out; omega) (GOk.le HG.out HB.out)
    refine hW.mono ?_
    clear hW
    rintro e wz ⟨rfl, q1_, q2_, q3_⟩
    clear hz0 hz1 hz2 hz3 hz4 hz5 hz6
    go_wp2
    go_end0
    exact ⟨rfl, by rw [← hT]; exact Or.inr q1_, HB.out.trans q2_, HK.out.trans q3_⟩
  have n5 : ¬ s.f0 = 5 := fun q => by rw [q] at e5; exact absurd e5 (by decide)
  rcases Bool.eq_false_or_eq_true (s.f0 == 6) with e6 | e6
  · have q6 : s.f0 = 6 := eq_of_beq e6
    unfold stS at hT
    rw [if_neg n1, if_neg n2, if_neg n3, if_neg n4, if_neg n5, if_pos q6] at hT
    clear q6
    go_wp2_with (fail)
    have hW := fence_c w0.heap.size g bs d _ s A4 A5 A6 c4 c5 c6 HP.out (by omega) (Kd.C_below R4.out HB.out) hc4 hx h2 h3 HB.out.size (by have := LEN.out; omega) (GOk.le HG.out HB.out)
    refine hW.mono ?_
    clear hW
    rintro e wz ⟨rfl, q1_, q2_, q3_⟩
    clear hz0 hz1 hz2 hz3 hz4 hz5 hz6
    go_wp2
    go_end0
    exact ⟨rfl, by rw [← hT]; exact Or.inr q1_, HB.out.trans q2_, HK.out.trans q3_⟩
  have n6 : ¬ s.f0 = 6 := fun q => by rw [q] at e6; exact absurd e6 (by decide)
  rcases Bool.eq_false_or_eq_true (s.f0 == 7) with e7 | e7
  · have q7 : s.f0 = 7 := eq_of_beq e7
    unfold stS at hT
    rw [if_neg n1, if_neg n2, if_neg n3, if_neg n4, if_neg n5, if_neg n6, if_pos q7] at hT
    clear q7
    go_wp2_with (fail)
    have hW := branch_c k IH w0 g bs d _ s A4 A5 A6 c4 c5 c6 HP.out HB.out hd R4.out hc4 R5.out hc5 R6.out hc6 hx X5.out X6.out HG.out B5.out B6.out LEN.out
    refine hW.mono ?_
    clear hW
    rintro e wz ⟨rfl, q1_, q2_, q3_⟩
    clear hz0 hz1 hz2 hz3 hz4 hz5 hz6
    go_wp2
    go_end0
    refine ⟨rfl, ?_, q2_, HK.out.trans q3_⟩
    rw [← hT]
    simpa only [cells_app, List.append_assoc] using q1_
  have n7 : ¬ s.f0 = 7 := fun q => by rw [q] at e7; exact absurd e7 (by decide)
  unfold stS at hT
  rw [if_neg n1, if_neg n2, if_neg n3, if_neg n4, if_neg n5, if_neg n6, if_neg n7] at hT
  go_wp2
  (try simp only [Exit.inBlock, Exit.then])
  refine bodyPost_ret (results_none rfl _ _ _) rfl ?_
  refine ⟨rfl, ?_, HB.out, HK.out⟩
  rw [← hT, cells_nil, List.append_nil]
  exact HP.out
end Go.Proofs.YtpldhihdlgghlaaDoor.PS
