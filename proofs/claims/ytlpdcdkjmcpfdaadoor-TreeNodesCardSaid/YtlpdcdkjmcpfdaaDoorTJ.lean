/- witheref9's May at a program of one load: walked by hand. -/
import Derived.Test.YtlpdcdkjmcpfdaaDoorPTx3
import Derived.Test.YtlpdcdkjmcpfdaaDoorPTx7
import Derived.Test.YtlpdcdkjmcpfdaaDoorPTx8
import Derived.Test.YtlpdcdkjmcpfdaaDoorTI
namespace Go.Proofs.YtlpdcdkjmcpfdaaDoor.PT
open Go.RowKit Go.Proofs.YtlpdcdkjmcpfdaaDoorW.PrintWords Go.Proofs.YtlpdcdkjmcpfdaaDoorW.PrintLast Go.Proofs.YtlpdcdkjmcpfdaaDoorW.PrintMore
set_option linter.unusedVariables false
set_option linter.unusedSimpArgs false
attribute [local go_sem] cell_set_some
/-- The statement, the location of the program that begun makes. -/
def st0 : S61 := ⟨2, 4, ⟨#[114]⟩, ⟨#[120]⟩, [], [], []⟩
def ce0 : S57 := ⟨⟨#[120]⟩, 0⟩
theorem info24 : (Tryd.prog.info? 24).map (fun i => (i.zero, i.size, i.bytes)) = some (some (.slice none 0 0), 1, 24) := by kernel_rfl
/-- The cells of the program that begun makes. -/
structure PC (w : World) (ad2 ad3 ad : Addr) (c0 : Nat) (A4 : Option Addr) (d4 : Nat) (A5 : Option Addr) (d5 : Nat) (A6 : Option Addr) (d6 : Nat) : Prop where
  i0 : w.cell? ad2 = some (.string ⟨#[120]⟩)
  i1 : w.cell? ⟨ad2.block, ad2.off + 1, none⟩ = some (.int .i64 0)
  t0 : w.cell? ad3 = some (.slice (some ad) 1 c0)
  s0 : w.cell? ad = some (.int .i64 2)
  s1 : w.cell? ⟨ad.block, ad.off + 1, none⟩ = some (.int .i64 4)
  s2 : w.cell? ⟨ad.block, ad.off + 2, none⟩ = some (.string ⟨#[114]⟩)
  s3 : w.cell? ⟨ad.block, ad.off + 3, none⟩ = some (.string ⟨#[120]⟩)
  s4 : w.cell? ⟨ad.block, ad.off + 4, none⟩ = some (.slice A4 0 d4)
  s5 : w.cell? ⟨ad.block, ad.off + 5, none⟩ = some (.slice A5 0 d5)
  s6 : w.cell? ⟨ad.block, ad.off + 6, none⟩ = some (.slice A6 0 d6)
theorem cell_below {w w1 : World} {a : Addr} {v : Value} (h : w.cell? a = some v) (hb : Below w.heap.size w w1) : w1.cell? a = some v := (hb.cell (World.block_lt_of_cell? _ _ h)).trans h
theorem PC.below {w w1 : World} {ad2 ad3 ad : Addr} {c0 : Nat} {A4 : Option Addr} {d4 : Nat} {A5 : Option Addr} {d5 : Nat} {A6 : Option Addr} {d6 : Nat} (h : PC w ad2 ad3 ad c0 A4 d4 A5 d5 A6 d6) (hb : Below w.heap.size w w1) : PC w1 ad2 ad3 ad c0 A4 d4 A5 d5 A6 d6 :=
  ⟨cell_below h.i0 hb, cell_below h.i1 hb, cell_below h.t0 hb, cell_below h.s0 hb, cell_below h.s1 hb, cell_below h.s2 hb, cell_below h.s3 hb, cell_below h.s4 hb, cell_below h.s5 hb, cell_below h.s6 hb⟩
theorem PC.of {w : World} {A2 A3 : Option Addr} (hr2 : Kd.C k57 w A2 1 [ce0]) (hr3 : Kd.C (Kd.slice 61 k61) w A3 1 [[st0]]) : ∃ ad2 ad3 ad c0 A4 d4 A5 d5 A6 d6, A2 = some ad2 ∧ A3 = some ad3 ∧ PC w ad2 ad3 ad c0 A4 d4 A5 d5 A6 d6 ∧ 1 ≤ c0 := by
  obtain ⟨ad2, rfl, y20, y21⟩ := at_T57 hr2 0 (by decide) (by decide)
  obtain ⟨ad3, A0, c0, rfl, y30, y31, y32⟩ := at_L6 hr3 0 (by decide) (by decide)
  obtain ⟨ad, A4, d4, A5, d5, A6, d6, rfl, y0, y1, y2, y3, y4, y5, y6, _⟩ := at_T61 y32 0 (by decide) (by decide)
  exact ⟨ad2, ad3, ad, c0, A4, d4, A5, d5, A6, d6, rfl, rfl, ⟨y20, y21, y30, y0, y1, y2, y3, y4, y5, y6⟩, y31⟩
set_option maxHeartbeats 8000000 in
set_option maxRecDepth 100000 in
theorem may_one (w : World) (A2 A3 A9 : Option Addr) (c2 c3 c9 : Nat) (hr2 : Kd.C k57 w A2 1 [ce0]) (hc2 : 1 ≤ c2) (hr3 : Kd.C (Kd.slice 61 k61) w A3 1 [[st0]]) (hc3 : 1 ≤ c3) (hr9 : Kd.C k35 w A9 0 []) :
    Calls Tryd.prog 53 #[.agg #[.string ⟨#[97]⟩, .int .i64 2, .slice A2 1 c2, .slice A3 1 c3, .int .i64 1, .int .i64 1, .int .i64 0, .string ⟨#[120]⟩, .int .i64 0, .slice A9 0 c9]] w fun e w' => e = .returned (.tuple #[.int .i64 0, .int .i64 0]) ∧ Below w.heap.size w w' := by
  have hu37 := Tryd.underlying37
  have hu57 := Tryd.underlying57
  have hu113 := Tryd.underlying113
  have hu35 := Tryd.underlying35
  obtain ⟨ad2, ad3, ad, c0, A4, d4, A5, d5, A6, d6, rfl, rfl, hp, _⟩ := PC.of hr2 hr3
  have HP := Aside0.mk hp
  have R2 := Aside0.mk hr2
  have R3 := Aside0.mk hr3
  have R9 := Aside0.mk hr9
  clear hp hr2 hr3 hr9
  go_enter Tryd.func53, Tryd.ntmps53
  go_wp2_with (first | ((with_reducible refine gate_dst (N := 1) rfl ?_); refine box_event ?hg (N := 1) ?hd (cs := #[.string ⟨#[97]⟩, .int .i64 2, .slice (some ad2) 1 c2, .slice (some ad3) 1 c3, .int .i64 1, .int .i64 1, .int .i64 0, .string ⟨#[120]⟩, .int .i64 0, .slice A9 0 c9]) (t := 37) ?hr ?_; (case hd => rfl); (case hg => rfl); (case hr => first | (go_simp; done) | (go_simp; rfl)); intro g1 hg1 w1 hbox hb1; have HX := Aside0.mk hbox; have HB := Aside0.mk hb1; have hx0 := blk_celln (HX.out) 0 _ rfl; have hx1 := blk_celln (HX.out) 1 _ rfl; have hx2 := blk_celln (HX.out) 2 _ rfl; have hx3 := blk_celln (HX.out) 3 _ rfl; have hx4 := blk_celln (HX.out) 4 _ rfl; have hx5 := blk_celln (HX.out) 5 _ rfl; have hx6 := blk_celln (HX.out) 6 _ rfl; have hx7 := blk_celln (HX.out) 7 _ rfl; have hx8 := blk_celln (HX.out) 8 _ rfl; have hx9 := blk_celln (HX.out) 9 _ rfl; clear hg1 hb1 hbox))
  refine (witheref9_head.calls 40 ⟨#[97]⟩ 2 (some ad2) c2 [ce0] (some ad3) c3 [[st0]] 1 1 0 ⟨#[120]⟩ 0 A9 c9 [] 0 _ (Kd.C_below R2.out HB.out) hc2 (Kd.C_below R3.out HB.out) hc3 (Kd.C_below R9.out HB.out) (Nat.zero_le _) (by kernel_rfl)).mono ?_
  rintro e w2 ⟨rfl, qb⟩
  replace HX := Aside0.mk (blk_below HX.out qb)
  replace HB := Aside0.mk (below_step HB.out qb)
  clear qb
  replace hx0 := blk_celln (HX.out) 0 _ rfl; replace hx1 := blk_celln (HX.out) 1 _ rfl; replace hx2 := blk_celln (HX.out) 2 _ rfl; replace hx3 := blk_celln (HX.out) 3 _ rfl; replace hx4 := blk_celln (HX.out) 4 _ rfl; replace hx5 := blk_celln (HX.out) 5 _ rfl; replace hx6 := blk_celln (HX.out) 6 _ rfl; replace hx7 := blk_celln (HX.out) 7 _ rfl; replace hx8 := blk_celln (HX.out) 8 _ rfl; replace hx9 := blk_celln (HX.out) 9 _ rfl
  have i0 := (HP.out.below HB.out).i0
  have i1 := (HP.out.below HB.out).i1
  go_wp2
  refine wp_loop_rounds 2 ?_
  rw [rounds_succ]
  go_upto_region 9 with (fail)
  have hbn := blk_new w2 (.cells #[.string ⟨#[120]⟩, .int .i64 0] 57)
  have hbb := below_alloc (Below.refl w2.heap.size w2) (.cells #[.string ⟨#[120]⟩, .int .i64 0] 57)
  clear hx0 hx1 hx2 hx3 hx4 hx5 hx6 hx7 hx8 hx9 i0 i1
  generalize w2.heap.size = g8 at hbn ⊢
  generalize w2.alloc (.cells #[.string ⟨#[120]⟩, .int .i64 0] 57) = wA at hbn hbb ⊢
  replace HX := Aside0.mk (blk_below HX.out hbb)
  replace HB := Aside0.mk (below_step HB.out hbb)
  have H8 := Aside0.mk hbn
  clear hbn hbb
  have hx1 := blk_celln (HX.out) 1 _ rfl; have hx2 := blk_celln (HX.out) 2 _ rfl
  have hy0 := blk_celln (H8.out) 0 _ rfl; have hy1 := blk_celln (H8.out) 1 _ rfl
  go_wp2_with (fail)
  refine (witheref6_Name.calls 40 ⟨#[120]⟩ true _ (by kernel_rfl)).mono ?_
  rintro e w3 ⟨rfl, qb⟩
  replace HX := Aside0.mk (blk_below HX.out qb)
  replace H8 := Aside0.mk (blk_below H8.out qb)
  replace HB := Aside0.mk (below_step HB.out qb)
  clear qb
  replace hx1 := blk_celln (HX.out) 1 _ rfl; replace hx2 := blk_celln (HX.out) 2 _ rfl
  replace hy0 := blk_celln (H8.out) 0 _ rfl; replace hy1 := blk_celln (H8.out) 1 _ rfl
  go_wp2_with (fail)
  refine (witheref9_In.calls 9 none 0 [] ⟨#[120]⟩ false _ (Kd.C_nil Kd.string _) (by decide) (by kernel_rfl)).mono ?_
  rintro e w4 ⟨rfl, n4, rfl⟩
  replace HX := Aside0.mk (blk_drewN HX.out n4)
  replace H8 := Aside0.mk (blk_drewN H8.out n4)
  replace HB := Aside0.mk (pw_below_drewN HB.out n4)
  generalize w3.drewN n4 = w5 at HX H8 HB ⊢
  replace hx1 := blk_celln (HX.out) 1 _ rfl; replace hx2 := blk_celln (HX.out) 2 _ rfl
  replace hy0 := blk_celln (H8.out) 0 _ rfl; replace hy1 := blk_celln (H8.out) 1 _ rfl
  go_wp2_with (at_builtin; refine Kd.R_append Kd.string (w0 := w) w.heap.size rfl (.tmp 55) (.tmp 58) 24 9 (.string ⟨#[]⟩) 16 rfl Tryd.underlying24 info9 rfl (by decide) (by decide) (.slice none 0 0) [] ⟨#[120]⟩ [.string ⟨#[120]⟩] (fun _ => True) (fun _ => False) rfl rfl rfl (fun _ hk => hk.elim) (fun _ _ => trivial) (Kd.R_nil _ _ _ _ _) HB.out HB.out.size (by decide) ?_; intro v1 w6 q1 q2 q3 _; obtain ⟨AL, cL, rfl⟩ := Kd.R_slice q1; have HL := Aside0.mk (show Kd.R Kd.string 9 w6 w.heap.size (fun _ => True) (.slice AL 1 cL) [⟨#[120]⟩] from q1); replace HX := Aside0.mk (blk_grown HX.out q3 nofun); replace HB := Aside0.mk q2; clear q1 q2 q3 H8 hy0 hy1; replace hx1 := blk_celln (HX.out) 1 _ rfl; replace hx2 := blk_celln (HX.out) 2 _ rfl; have hx3 := blk_celln HX.out 3 _ rfl)
  rw [rounds_succ]
  have t0 := (HP.out.below HB.out).t0
  go_wp2
  refine wp_loop_rounds 2 ?_
  rw [rounds_succ]
  go_wp2_with (first | ((with_reducible refine gate_dst (N := 76) rfl ?_); refine box_event ?hg (N := 76) ?hd (cs := #[.int .i64 2, .slice AL 1 cL, .slice none 0 0, .int .i64 0, .int .i64 2]) (t := 113) ?hr ?_; (case hd => rfl); (case hg => rfl); (case hr => first | (go_simp; done) | (go_simp; rfl)); intro gw hgw w7 hbox hb1; have HG := Aside0.mk hbox; have Hgw := Aside0.mk (show w.heap.size ≤ gw from hgw ▸ HB.out.size); replace HX := Aside0.mk (blk_below HX.out hb1); replace HL := Aside0.mk (Kd.R_below HL.out hb1); replace HB := Aside0.mk (below_step HB.out hb1); clear hgw hb1 hbox; replace hx1 := blk_celln (HX.out) 1 _ rfl; replace hx2 := blk_celln (HX.out) 2 _ rfl; replace hx3 := blk_celln (HX.out) 3 _ rfl; replace t0 := (HP.out.below HB.out).t0))
  have P7 := Aside0.mk (HP.out.below HB.out)
  have hlt : ad.block < w.heap.size := World.block_lt_of_cell? _ _ HP.out.s0
  refine (all_one w7 gw w.heap.size AL A4 A5 A6 cL d4 d5 d6 ad c0 HL.out P7.out.s0 P7.out.s1 P7.out.s2 P7.out.s3 P7.out.s4 P7.out.s5 P7.out.s6 hlt HG.out Hgw.out HB.out.size).mono ?_
  rintro e w8 ⟨vk, rfl, q1, q2, q3, qT⟩
  obtain ⟨Ak, ck, rfl⟩ := Kd.R_slice q2
  replace HG := Aside0.mk q1
  have HV := Aside0.mk (show Kd.R Kd.string 9 w8 w.heap.size (fun _ => True) (.slice Ak 1 ck) [⟨#[114]⟩] from q2)
  replace HL := Aside0.mk q3
  replace HX := Aside0.mk (qT.2 _ _ _ HX.out (by decide))
  replace HB := Aside0.mk (HB.out.trans qT.1)
  clear P7 hlt q1 q2 q3 qT t0
  replace hx1 := blk_celln (HX.out) 1 _ rfl; replace hx2 := blk_celln (HX.out) 2 _ rfl; replace hx3 := blk_celln (HX.out) 3 _ rfl
  have t0 := (HP.out.below HB.out).t0
  have hz2 := blk_celln (HG.out) 2 _ rfl; have hz4 := blk_celln (HG.out) 4 _ rfl
  go_wp2_with (at_builtin; refine Kd.R_append (Kd.slice 9 Kd.string) (w0 := w) w.heap.size rfl (.tmp 95) (.tmp 100) 25 24 (.slice none 0 0) 24 rfl Tryd.underlying25 info24 rfl (by decide) (by decide) (.slice none 0 0) [] [⟨#[114]⟩] [.slice Ak 1 ck] (fun _ => True) (fun _ => True) rfl rfl (Kd.M_row HV.out) (fun _ _ => ⟨trivial, nofun⟩) (fun _ _ => trivial) (Kd.R_nil _ _ _ _ _) HB.out HB.out.size (by decide) ?_; intro v1 w9 q1 q2 q3 _; obtain ⟨AR, cR, rfl⟩ := Kd.R_slice q1; have HR := Aside0.mk (show Kd.R (Kd.slice 9 Kd.string) 24 w9 w.heap.size (fun _ => True) (.slice AR 1 cR) [[⟨#[114]⟩]] from q1); replace HX := Aside0.mk (blk_grown HX.out q3 nofun); replace HL := Aside0.mk (Kd.R_grown2 HL.out rfl q3 nofun); replace HB := Aside0.mk q2; clear q1 q2 q3 HG HV hz2 hz4 t0; replace hx1 := blk_celln (HX.out) 1 _ rfl; replace hx2 := blk_celln (HX.out) 2 _ rfl; replace hx3 := blk_celln (HX.out) 3 _ rfl)
  rw [rounds_succ]
  have hx4 := blk_celln (HX.out) 4 _ rfl; have hx5 := blk_celln (HX.out) 5 _ rfl; have hx6 := blk_celln (HX.out) 6 _ rfl; have hx7 := blk_celln (HX.out) 7 _ rfl; have hx8 := blk_celln (HX.out) 8 _ rfl; have hx9 := blk_celln (HX.out) 9 _ rfl
  go_wp2_with (fail)
  refine (witheref9_condDeep.calls 9 1 0 ⟨#[120]⟩ 0 A9 c9 [] 1 _ (Kd.C_below R9.out HB.out) (Nat.zero_le _) (by kernel_rfl)).mono ?_
  rintro e w10 ⟨rfl, qb⟩
  replace HX := Aside0.mk (blk_below HX.out qb)
  replace HL := Aside0.mk (Kd.R_below HL.out qb)
  replace HR := Aside0.mk (Kd.R_below HR.out qb)
  replace HB := Aside0.mk (below_step HB.out qb)
  clear qb
  replace hx1 := blk_celln (HX.out) 1 _ rfl; replace hx2 := blk_celln (HX.out) 2 _ rfl; replace hx3 := blk_celln (HX.out) 3 _ rfl; replace hx4 := blk_celln (HX.out) 4 _ rfl; replace hx5 := blk_celln (HX.out) 5 _ rfl; replace hx6 := blk_celln (HX.out) 6 _ rfl; replace hx7 := blk_celln (HX.out) 7 _ rfl; replace hx8 := blk_celln (HX.out) 8 _ rfl; replace hx9 := blk_celln (HX.out) 9 _ rfl
  go_wp2_with (fail)
  refine (witheref9_cond.calls 9 1 0 ⟨#[120]⟩ 0 A9 c9 [] 2 AL cL [⟨#[120]⟩] AR cR [[⟨#[114]⟩]] 0 _ (Kd.C_below R9.out HB.out) (Nat.zero_le _) (Kd.R_reads' HL.out).2.2 (Kd.R_reads' HL.out).2.1 (Kd.R_reads' HR.out).2.2 (Kd.R_reads' HR.out).2.1 (by kernel_rfl)).mono ?_
  rintro e w11 ⟨rfl, qb⟩
  replace HB := Aside0.mk (below_step HB.out qb)
  clear qb hx1 hx2 hx3 hx4 hx5 hx6 hx7 hx8 hx9
  go_wp2
  go_ret2
  exact ⟨rfl, HB.out⟩
end Go.Proofs.YtlpdcdkjmcpfdaaDoor.PT
