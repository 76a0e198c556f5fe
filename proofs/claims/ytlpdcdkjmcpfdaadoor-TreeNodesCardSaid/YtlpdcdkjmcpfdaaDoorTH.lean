/- witheref9.walk's all (what is wrong of statements), at one load: walked by hand. -/
import Derived.Test.YtlpdcdkjmcpfdaaDoorTG
namespace Go.Proofs.YtlpdcdkjmcpfdaaDoor.PT
open Go.RowKit Go.Proofs.YtlpdcdkjmcpfdaaDoorW.PrintWords Go.Proofs.YtlpdcdkjmcpfdaaDoorW.PrintLast Go.Proofs.YtlpdcdkjmcpfdaaDoorW.PrintMore
set_option linter.unusedVariables false
set_option linter.unusedSimpArgs false
attribute [local go_sem] cell_set_some
set_option maxHeartbeats 8000000 in
set_option maxRecDepth 100000 in
theorem all_nil (w : World) (v : Value) (A : Option Addr) (c : Nat) (i : Int) : Calls Tryd.prog 75 #[v, .slice A 0 c, .int .i64 i] w fun e w' => e = .returned (.int .i64 0) ∧ w' = w := by
  go_enter Tryd.func75, Tryd.ntmps75
  go_wp2
  refine wp_loop_rounds 1 ?_
  rw [rounds_succ]
  go_wp2
  go_ret
  exact ⟨rfl, rfl⟩
set_option maxHeartbeats 8000000 in
set_option maxRecDepth 100000 in
theorem all_one (w : World) (gw b0 : Nat) (AL A4 A5 A6 : Option Addr) (cL c4 c5 c6 : Nat) (ad : Addr) (cl : Nat) (hl : Kd.R Kd.string 9 w b0 (fun _ => True) (.slice AL 1 cL) [⟨#[120]⟩])
    (q0 : w.cell? ad = some (.int .i64 2)) (q1 : w.cell? ⟨ad.block, ad.off + 1, none⟩ = some (.int .i64 4)) (q2 : w.cell? ⟨ad.block, ad.off + 2, none⟩ = some (.string ⟨#[114]⟩)) (q3 : w.cell? ⟨ad.block, ad.off + 3, none⟩ = some (.string ⟨#[120]⟩))
    (q4 : w.cell? ⟨ad.block, ad.off + 4, none⟩ = some (.slice A4 0 c4)) (q5 : w.cell? ⟨ad.block, ad.off + 5, none⟩ = some (.slice A5 0 c5)) (q6 : w.cell? ⟨ad.block, ad.off + 6, none⟩ = some (.slice A6 0 c6)) (hlt : ad.block < b0)
    (hb : w.heap[gw]? = some (.cells #[.int .i64 2, .slice AL 1 cL, .slice none 0 0, .int .i64 0, .int .i64 2] 113 (0, 0))) (hg : b0 ≤ gw) (hs : b0 ≤ w.heap.size) :
    Calls Tryd.prog 75 #[.pointer (some ⟨gw, 0, none⟩), .slice (some ad) 1 cl, .int .i64 0] w fun e w' => ∃ vk, e = .returned (.int .i64 0) ∧
      w'.heap[gw]? = some (.cells #[.int .i64 2, .slice AL 1 cL, vk, .int .i64 1, .int .i64 3] 113 (0, 0)) ∧ Kd.R Kd.string 9 w' b0 (fun _ => True) vk [⟨#[114]⟩] ∧ Kd.R Kd.string 9 w' b0 (fun _ => True) (.slice AL 1 cL) [⟨#[120]⟩] ∧ TV b0 w w' := by
  have hu113 := Tryd.underlying113
  have hu61 := Tryd.underlying61
  have HO := Aside0.mk (one_calls w gw b0 AL A4 A5 A6 cL c4 c5 c6 2 ⟨#[120]⟩ ⟨#[114]⟩ 4 rfl rfl rfl hl hb hg hs)
  clear hb hl
  go_enter Tryd.func75, Tryd.ntmps75
  go_wp2
  refine wp_loop_rounds 2 ?_
  rw [rounds_succ]
  go_wp2_with (go_at_call 96; refine HO.out.mono ?_; rintro e w2 ⟨vk, rfl, hb, hv, hl, hT⟩; have HV := Aside0.mk hv; have HL := Aside0.mk hl; have HT := Aside0.mk hT; replace q0 := (hT.cell (a := ad) hlt).trans q0; replace q1 := (hT.cell (a := ⟨ad.block, ad.off + 1, none⟩) hlt).trans q1; replace q2 := (hT.cell (a := ⟨ad.block, ad.off + 2, none⟩) hlt).trans q2; replace q3 := (hT.cell (a := ⟨ad.block, ad.off + 3, none⟩) hlt).trans q3; replace q4 := (hT.cell (a := ⟨ad.block, ad.off + 4, none⟩) hlt).trans q4; replace q5 := (hT.cell (a := ⟨ad.block, ad.off + 5, none⟩) hlt).trans q5; replace q6 := (hT.cell (a := ⟨ad.block, ad.off + 6, none⟩) hlt).trans q6; have hz4 := blk_celln hb 4 _ rfl; have hf4 := blk_frozen hb 4; clear hv hl hT)
  refine (all_nil _ _ A5 c5 _).mono ?_
  rintro e w3 ⟨rfl, e3⟩
  have k9 : TV b0 w2 (w2.setCell ⟨gw, 4, none⟩ (.int .i64 3)) := (TV.refl b0 w2).set hb hg _
  replace q6 := (k9.cell (a := ⟨ad.block, ad.off + 6, none⟩) hlt).trans q6
  have HG := Aside0.mk (show (w2.setCell ⟨gw, 4, none⟩ (.int .i64 3)).heap[gw]? = some (.cells #[.int .i64 2, .slice AL 1 cL, vk, .int .i64 1, .int .i64 3] 113 (0, 0)) from blk_put hb 4 (.int .i64 3) rfl)
  obtain ⟨Ak, ck, rfl⟩ := Kd.R_slice HV.out
  replace HL := Aside0.mk (str_ne (xs := [⟨#[120]⟩]) HL.out k9)
  replace HV := Aside0.mk (str_ne (xs := [⟨#[114]⟩]) HV.out k9)
  replace HT := Aside0.mk (HT.out.trans k9)
  rw [← e3] at q6 HG HL HV HT
  clear q0 q1 q2 q3 q4 q5 hz4 hf4 hb e3 k9
  go_wp2_with (go_at_call 75; refine (all_nil _ _ A6 c6 _).mono ?_; rintro e w4 ⟨rfl, rfl⟩)
  rw [rounds_succ]
  go_wp2
  go_ret
  exact ⟨_, rfl, HG.out, HV.out, HL.out, HT.out⟩
end Go.Proofs.YtlpdcdkjmcpfdaaDoor.PT
