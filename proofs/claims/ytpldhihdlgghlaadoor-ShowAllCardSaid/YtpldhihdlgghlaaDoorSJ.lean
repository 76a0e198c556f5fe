/- show.Prog, walked by hand. -/
import Derived.Test.YtpldhihdlgghlaaDoorSI
namespace Go.Proofs.YtpldhihdlgghlaaDoor.PS
open Go.RowKit Go.Proofs.YtpldhihdlgghlaaDoorW.PrintWords Go.Proofs.YtpldhihdlgghlaaDoorW.PrintLast Go.Proofs.YtpldhihdlgghlaaDoorW.PrintMore
set_option linter.unusedVariables false
set_option linter.unusedSimpArgs false
attribute [local go_sem] cell_set_some
def initS (x : S42) : ByteArray := lineS 0 [(⟨#[105, 110, 105, 116]⟩ : ByteArray), x.f0, it x.f1]
def thrS (l : List S45) : ByteArray := lineS 0 [(⟨#[116, 104, 114, 101, 97, 100, 32, 123]⟩ : ByteArray)] ++ blS 13 1 l ++ lineS 0 [(⟨#[125]⟩ : ByteArray)]
def askS (a : Int) : ByteArray := if a = 1 then ⟨#[101, 120, 105, 115, 116, 115]⟩ else if a = 2 then ⟨#[102, 111, 114, 97, 108, 108]⟩ else ⟨#[]⟩
/-- A program's text. -/
def prS (nm : ByteArray) (vals : Int) (li : List S42) (lt : List (List S45)) (ask : Int) (c : S26) : ByteArray :=
  lineS 0 [(⟨#[108, 105, 116, 109, 117, 115]⟩ : ByteArray), nm, (⟨#[118, 97, 108, 117, 101, 115]⟩ : ByteArray), it vals] ++ catS (li.map initS) ++ catS (lt.map thrS) ++ lineS 0 [askS ask, cdS 13 c]
/-- What is looked at: not too great. -/
def PX (nm : ByteArray) (vals : Int) (li : List S42) (lt : List (List S45)) (c : S26) : Prop :=
  nm.size ≤ 40 ∧ R64 vals ∧ li.length ≤ 10 ∧ lt.length ≤ 10 ∧ (∀ x ∈ li, x.f0.size ≤ 40 ∧ R64 x.f1) ∧ (∀ t ∈ lt, SX 13 t ∧ cnt 13 t ≤ 300) ∧ CX 13 c
theorem page_new {B g : Nat} {w : World} (hB : B ≤ g) (h : w.heap[g]? = some (.cells #[.pointer none, .slice none 0 0, .int .i64 0] 53 (0, 0))) : IsPG B g (Lib.strCells ⟨#[]⟩) ((0 : Nat) : Int) w := by
  rw [cells_nil]
  exact Or.inl ⟨hB, .slice none 0 0, h, ⟨rfl, Or.inl ⟨rfl, rfl⟩⟩, by simp [Value.ownBlock]⟩
theorem nil_cat (x : ByteArray) : (⟨#[]⟩ : ByteArray) ++ x = x := ba_ext (by simp)
theorem cat_nil (x : ByteArray) : x ++ catS [] = x := ba_ext (by simp [catS])
theorem catS_le {α : Type} (f : α → ByteArray) (B : Nat) : ∀ l : List α, (∀ x ∈ l, (f x).size ≤ B) → (catS (l.map f)).size ≤ B * l.length
  | [], _ => Nat.zero_le _
  | x :: l, h => by
    have r := catS_le f B l (fun y hy => h y (List.mem_cons_of_mem _ hy))
    have a := h x (List.mem_cons_self ..)
    simp only [List.map_cons, catS, ByteArray.size_append, List.length_cons, Nat.mul_add, Nat.mul_one]
    omega
theorem catS_take {α : Type} (f : α → ByteArray) (B : Nat) (l : List α) (h : ∀ x ∈ l, (f x).size ≤ B) (i : Nat) : (catS ((l.take i).map f)).size ≤ B * i :=
  Nat.le_trans (catS_le f B _ (fun x hx => h x (List.mem_of_mem_take hx))) (Nat.mul_le_mul_left B (List.length_take_le i l))
theorem inits_size {li : List S42} (h : ∀ x ∈ li, x.f0.size ≤ 40 ∧ R64 x.f1) (i : Nat) : (catS ((li.take i).map initS)).size ≤ 1000 * i :=
  catS_take initS 1000 li (fun x hx => Nat.le_trans (lineS_size 0 _) (by
    have h1 := (h x hx).1
    have h2 := it_size (h x hx).2
    simp only [List.map_cons, List.map_nil, List.sum_cons, List.sum_nil, show (⟨#[105, 110, 105, 116]⟩ : ByteArray).size = 4 from rfl]
    omega)) i
theorem thrs_size {lt : List (List S45)} (h : ∀ t ∈ lt, SX 13 t ∧ cnt 13 t ≤ 300) (i : Nat) : (catS ((lt.take i).map thrS)).size ≤ 2000000000 * i :=
  catS_take thrS 2000000000 lt (fun x hx => by
    have h1 := blS_size 13 1 x (h x hx).1 (by decide)
    have h2 := (h x hx).2
    have a := lineS_size 0 [(⟨#[116, 104, 114, 101, 97, 100, 32, 123]⟩ : ByteArray)]
    have b := lineS_size 0 [(⟨#[125]⟩ : ByteArray)]
    simp only [List.map_cons, List.map_nil, List.sum_cons, List.sum_nil, show (⟨#[116, 104, 114, 101, 97, 100, 32, 123]⟩ : ByteArray).size = 8 from rfl, show (⟨#[125]⟩ : ByteArray).size = 1 from rfl] at a b
    simp only [thrS, ByteArray.size_append]
    omega) i
theorem lineS_pos (x : ByteArray) (a b : ByteArray) : x.size + (a ++ b ++ (⟨#[10]⟩ : ByteArray)).size ≠ 0 := by
  rw [ByteArray.size_append (b := ⟨#[10]⟩)]
  show x.size + (_ + 1) ≠ 0
  omega
theorem rd42 {l : List S42} {i : Nat} (h : i < l.length) : l.take (i + 1) = l.take i ++ [rd_T42 l (i : Int)] ∧ rd_T42 l (i : Int) ∈ l := by
  constructor
  · rw [List.take_add_one, List.getElem?_eq_getElem h]
    simp [rd_T42, h]
  · simp [rd_T42, h]
theorem rd8 {l : List (List S45)} {i : Nat} (h : i < l.length) : l.take (i + 1) = l.take i ++ [rd_L8 l (i : Int)] ∧ rd_L8 l (i : Int) ∈ l := by
  constructor
  · rw [List.take_add_one, List.getElem?_eq_getElem h]
    simp [rd_L8, h]
  · simp [rd_L8, h]
theorem fill42 {w : World} {g : Nat} {e0 e1 : Value} (h : w.heap[g]? = some (.cells #[e0, e1] 42 (0, 0))) (v0 v1 : Value) (W : World) (hW : W = (w.setCell ⟨g, 0, none⟩ v0).setCell ⟨g, 1, none⟩ v1) :
    W.heap[g]? = some (.cells #[v0, v1] 42 (0, 0)) ∧ ∀ B, B ≤ g → Below B w W := by
  subst hW
  have b0 := blk_put (cs' := #[v0, e1]) h 0 v0 (by simp)
  have b1 := blk_put (cs' := #[v0, v1]) b0 1 v1 (by simp)
  exact ⟨b1, fun B hB => ((Below.refl B w).setCell hB _).setCell hB _⟩
def progT.T2 : Bool × List (List Nat × List Nat) := (true, [([], []), ([], []), ([1], [1]), ([], []), ([3], [3]), ([4], [4]), ([2, 5], [2, 5]), ([0, 6, 5], [0, 6])])
def progT.B2 : List Nat := [0, 0, 2, 0, 8, 24, 62, 127]
theorem progT.tab2 : rtab .any (opsOf Tryd.f8 2) = progT.T2 := by kernel_rfl
theorem progT.bits2 : waitsOk progT.T2.2 progT.B2 = true := by kernel_rfl
def progT.T6 : Bool × List (List Nat × List Nat) := (true, [([], []), ([], []), ([1], [1]), ([], []), ([3], [3]), ([4], [4]), ([2, 5], [2, 5]), ([0, 6, 5], [0, 6])])
def progT.B6 : List Nat := [0, 0, 2, 0, 8, 24, 62, 127]
theorem progT.tab6 : rtab .any (opsOf Tryd.f8 6) = progT.T6 := by kernel_rfl
theorem progT.bits6 : waitsOk progT.T6.2 progT.B6 = true := by kernel_rfl
set_option maxHeartbeats 16000000 in
set_option maxRecDepth 100000 in
theorem prog_c (w : World) (nm : ByteArray) (vals : Int) (AI : Option Addr) (cI : Nat) (li : List S42) (AT : Option Addr) (cT : Nat) (lt : List (List S45)) (ask co ct : Int) (cn : ByteArray) (cnum : Int) (AC : Option Addr) (cC : Nat) (lc : List S26)
    (hri : Kd.C k42 w AI li.length li) (hci : li.length ≤ cI) (hrt : Kd.C (Kd.slice 45 k45) w AT lt.length lt) (hct : lt.length ≤ cT) (hrc : Kd.C k26 w AC lc.length lc) (hcc : lc.length ≤ cC) (hx : PX nm vals li lt (S26.mk co ct cn cnum lc)) (hG : GOk w) :
    Calls Tryd.prog 8 #[.agg #[.string nm, .int .i64 vals, .slice AI li.length cI, .slice AT lt.length cT, .int .i64 ask, .int .i64 co, .int .i64 ct, .string cn, .int .i64 cnum, .slice AC lc.length cC]] w fun e w' => e = .returned (.string (prS nm vals li lt ask (S26.mk co ct cn cnum lc))) ∧ Below w.heap.size w w' := by
  obtain ⟨x0, x1, x2, x3, x4, x5, x6⟩ := hx
  have hu28 := Tryd.underlying28
  have hu26 := Tryd.underlying26
  have hu42 := Tryd.underlying42
  have hu53 := Tryd.underlying53
  have sv := it_size x1
  have l0 : (lineS 0 [(⟨#[108, 105, 116, 109, 117, 115]⟩ : ByteArray), nm, (⟨#[118, 97, 108, 117, 101, 115]⟩ : ByteArray), it vals]).size ≤ 1000 := Nat.le_trans (lineS_size 0 _) (by simp only [List.map_cons, List.map_nil, List.sum_cons, List.sum_nil, show (⟨#[108, 105, 116, 109, 117, 115]⟩ : ByteArray).size = 6 from rfl, show (⟨#[118, 97, 108, 117, 101, 115]⟩ : ByteArray).size = 6 from rfl]; omega)
  have L0 := Aside0.mk l0
  have HRI := Aside0.mk hri
  have HRT := Aside0.mk hrt
  have HRC := Aside0.mk hrc
  have HG := Aside0.mk hG
  have XI := Aside0.mk x4
  have XT := Aside0.mk x5
  have XC := Aside0.mk x6
  have N2 := Aside0.mk x2
  have N3 := Aside0.mk x3
  have HB := Aside0.mk (Below.refl w.heap.size w)
  clear hri hrt hrc hG x4 x5 x6 l0 sv
  go_enter Tryd.func8, Tryd.ntmps8
  go_upto_region 2 with (first | ((with_reducible refine gate_dst (N := 1) rfl ?_); refine box_event ?hg (N := 1) ?hd (cs := #[.string nm, .int .i64 vals, .slice AI li.length cI, .slice AT lt.length cT, .int .i64 ask, .int .i64 co, .int .i64 ct, .string cn, .int .i64 cnum, .slice AC lc.length cC]) (t := 28) ?hr ?_; (case hd => rfl); (case hg => rfl); (case hr => first | (go_simp; done) | (go_simp; rfl)); intro gb hg1 w1 hbox hb1; have HX := Aside0.mk hbox; replace HB := Aside0.mk (below_step HB.out hb1); clear hg1 hb1 hbox) | ((with_reducible refine gate_dst (N := 10) rfl ?_); refine box_event ?hg (N := 10) ?hd (cs := #[.pointer none, .slice none 0 0, .int .i64 0]) (t := 53) ?hr ?_; (case hd => rfl); (case hg => rfl); (case hr => first | (go_simp; done) | (go_simp; rfl)); intro g hg1 w2 hbox hb1; have HP := Aside0.mk (page_new (B := w.heap.size) (Nat.le_trans HB.out.size (Nat.le_of_eq hg1.symm)) hbox); replace HX := Aside0.mk (blk_below HX.out hb1); replace HB := Aside0.mk (below_step HB.out hb1); clear hg1 hb1 hbox))
  replace HX := Aside0.mk (blk_drew HX.out)
  replace HP := Aside0.mk (HP.out.below (below_drew (Below.refl _ _)))
  replace HB := Aside0.mk (below_drew HB.out)
  refine start_ (n := 8) (S := fun w' => w'.cell? ⟨gb, 0, none⟩ = some (.string nm) ∧ w'.cell? ⟨gb, 1, none⟩ = some (.int .i64 vals)) (ds := [7]) #[Z,Z,Z,Z,Z,Z,Z,Z] (by kernel_rfl) rfl rfl ⟨(blk_celln HX.out 0 _ rfl), (blk_celln HX.out 1 _ rfl)⟩ (fun hHeld => ?_)
  refine with_tabW progT.tab2 progT.bits2 (fun HT_ HW_ => ?_)
  generalize World.drew _ = wd2 at HX HP HB hHeld ⊢
  refine pure_ (i := 0) (N := some 11) (v := ?_) (a' := ?_) #[Y,Z,Z,Z,Z,Z,Z,Z] rfl rfl (any_of HT_.out (by kernel_rfl)) (fun _ _ _ h => h) (Or.inl ⟨by rfl, ?_⟩) ?_ ?_
  rotate_left
  · intro w'
    go_simp
    with_reducible rfl
  rotate_left
  · simp only [Act.put, pA, pB, pC, i64_w, i32_w]
    rfl
  refine pure_ (i := 1) (N := some 12) (v := ?_) (a' := ?_) #[Y,Y,Z,Z,Z,Z,Z,Z] rfl rfl (any_of HT_.out (by kernel_rfl)) (fun _ _ _ h => h) (Or.inl ⟨by rfl, ?_⟩) ?_ ?_
  rotate_left
  · intro w'
    go_simp
    with_reducible rfl
  rotate_left
  · simp only [Act.put, pA, pB, pC, i64_w, i32_w]
    rfl
  refine take_ (i := 2) (N := some 13) (v := ?_) (a' := ?_) #[Y,Y,Y,Z,Z,Z,Z,Z] rfl rfl (take_ofW HT_.out HW_.out (by kernel_rfl)) (fun _ _ _ h => h) (Or.inl ⟨by rfl, ?_⟩) hHeld ?_ ?_
  rotate_left
  · rintro w' ⟨s0, s1⟩
    go_simp
    with_reducible rfl
  rotate_left
  · simp only [Act.put, pA, pB, pC, i64_w, i32_w]
    rfl
  refine pure_ (i := 3) (N := some 14) (v := ?_) (a' := ?_) #[Y,Y,Y,Y,Z,Z,Z,Z] rfl rfl (any_of HT_.out (by kernel_rfl)) (fun _ _ _ h => h) (Or.inl ⟨by rfl, ?_⟩) ?_ ?_
  rotate_left
  · intro w'
    go_simp
    with_reducible rfl
  rotate_left
  · simp only [Act.put, pA, pB, pC, i64_w, i32_w]
    rfl
  refine take_ (i := 4) (N := some 15) (v := ?_) (a' := ?_) #[Y,Y,Y,Y,Y,Z,Z,Z] rfl rfl (take_ofW HT_.out HW_.out (by kernel_rfl)) (fun _ _ _ h => h) (Or.inl ⟨by rfl, ?_⟩) hHeld ?_ ?_
  rotate_left
  · rintro w' ⟨s0, s1⟩
    go_simp
    with_reducible rfl
  rotate_left
  · simp only [Act.put, pA, pB, pC, i64_w, i32_w]
    rfl
  refine one_ (i := 5) (N := some 16) #[Y,Y,Y,Y,Y,Y,Z,Z] rfl rfl (one_of HT_.out (by kernel_rfl)) (by decide) (fun K hK => ?_)
  refine goes_ Tryd.func18 (by kernel_rfl) rfl #[.int .i64 vals] (by rfl) rfl rfl (by (try simp only [List.map_toArray, List.map_cons, List.map_nil]); first | done | rfl) ?_
  refine (strconv_Itoa_18.calls vals (it vals) _ (ito_f x1) (GOk.le HG.out HB.out)).mono ?_
  rintro e wx ⟨rfl, qb⟩
  refine ⟨_, rfl, ?_⟩
  replace HX := Aside0.mk (blk_below HX.out qb)
  replace HP := Aside0.mk (HP.out.below qb)
  replace HB := Aside0.mk (below_step HB.out qb)
  clear qb
  refine hK.out _ _ ⟨(blk_celln HX.out 0 _ rfl), (blk_celln HX.out 1 _ rfl)⟩ (fun hHeld => ?_)
  clear hK K
  refine norm_ (a' := ?_) ?_ ?_
  rotate_left
  · show Act.put _ (some 16) _ = _
    simp only [Act.put, pA, pB, pC, i64_w, i32_w]
    rfl
  refine one_ (i := 6) (N := some 17) #[Y,Y,Y,Y,Y,Y,Y,Z] rfl rfl (one_of HT_.out (by kernel_rfl)) (by decide) (fun K hK => ?_)
  refine lit_step ?hg (N := 17) ?hd (n := 4) (cs := ⟨[(⟨#[108, 105, 116, 109, 117, 115]⟩ : ByteArray), nm, (⟨#[118, 97, 108, 117, 101, 115]⟩ : ByteArray), it vals].map Value.string⟩) (t := 9) ?hr ?_; (case hd => rfl); (case hg => rfl); (case hr => first | (go_simp; done) | (go_simp; rfl))
  intro gs hg_ w9 hbox_ hq_
  have HL := Aside0.mk hbox_
  replace HX := Aside0.mk (blk_below HX.out hq_)
  replace HP := Aside0.mk (HP.out.below hq_)
  replace HB := Aside0.mk (below_step HB.out hq_)
  clear hg_ hbox_ hq_
  refine hK.out _ _ ⟨(blk_celln HX.out 0 _ rfl), (blk_celln HX.out 1 _ rfl)⟩ (fun hHeld => ?_)
  clear hK K
  refine norm_ (a' := ?_) ?_ ?_
  rotate_left
  · show Act.put _ (some 17) _ = _
    simp only [Act.put, pA, pB, pC, i64_w, i32_w]
    rfl
  refine last_ (i := 7) (N := some 18) #[Y,Y,Y,Y,Y,Y,Y,Y] rfl rfl (one_of HT_.out (by kernel_rfl)) (by decide) (fun K hK => ?_)
  refine goes_ Tryd.func17 (by kernel_rfl) rfl #[.pointer (some ⟨g, 0, none⟩), .slice (some ⟨gs, 0, none⟩) 4 4] (by rfl) rfl rfl (by (try simp only [List.map_toArray, List.map_cons, List.map_nil]); first | done | rfl) ?_
  have hW := line_c w.heap.size g (Lib.strCells (⟨#[]⟩)) 0 _ (some ⟨gs, 0, none⟩) 4 [(⟨#[108, 105, 116, 109, 117, 115]⟩ : ByteArray), nm, (⟨#[118, 97, 108, 117, 101, 115]⟩ : ByteArray), it vals] HP.out (by decide) (C_strs (show 4 ≤ 9223372036854775807 by decide) HL.out) (show 4 ≤ 4 by decide) HB.out.size (show 4 ≤ 1000 by decide) (Nat.le_trans L0.out (by decide)) (by have := L0.out; rw [Lib.strCells_length]; show (0 : Nat) + _ ≤ _; omega)
  refine hW.mono ?_
  clear hW
  rintro e wz ⟨rfl, q1, q2, q3⟩
  refine ⟨_, rfl, ?_⟩
  clear HL
  rw [← cells_app] at q1
  replace HX := Aside0.mk (keptB q3 HX.out (IsPG.ne HP.out HX.out (by decide)) (by decide))
  replace HP := Aside0.mk (show IsPG _ _ _ _ _ from Or.inr q1)
  replace HB := Aside0.mk (HB.out.trans q2)
  clear q1 q2 q3
  refine hK.out _ _ ?_
  clear hK K
  refine norm_ (a' := ?_) ?_ ?_
  rotate_left
  · show Act.put _ (some 18) _ = _
    simp only [Act.put, pA, pB, pC, i64_w, i32_w]
    rfl
  refine done_ (done_of HT_.out (by kernel_rfl)) ?_
  clear hHeld
  replace HP : Aside0 (IsPG w.heap.size g (Lib.strCells (lineS 0 [(⟨#[108, 105, 116, 109, 117, 115]⟩ : ByteArray), nm, (⟨#[118, 97, 108, 117, 101, 115]⟩ : ByteArray), it vals])) ((0 : Nat) : Int) _) := ⟨by have e := HP.out; rw [nil_cat] at e; exact e⟩
  have hz2 := blk_celln (HX.out) 2 _ rfl
  try go_wp2
  try go_simp
  clear hz2
  go_loopg [22] li.length (fun kq v22 w' => ∃ i : Nat, v22 = .int .i64 (i : Int) ∧ Aside0 (i + kq = li.length) ∧ Aside0 (IsPG w.heap.size g (Lib.strCells (lineS 0 [(⟨#[108, 105, 116, 109, 117, 115]⟩ : ByteArray), nm, (⟨#[118, 97, 108, 117, 101, 115]⟩ : ByteArray), it vals] ++ catS ((li.take i).map initS))) ((0 : Nat) : Int) w') ∧ Aside0 (Below w.heap.size w w') ∧ Aside0 (w'.heap[gb]? = some (.cells #[.string nm, .int .i64 vals, .slice AI li.length cI, .slice AT lt.length cT, .int .i64 ask, .int .i64 co, .int .i64 ct, .string cn, .int .i64 cnum, .slice AC lc.length cC] 28 (0, 0))))
  case atStart => exact ⟨0, rfl, ⟨by omega⟩, ⟨by rw [List.take_zero, List.map_nil, cat_nil]; exact HP.out⟩, HB, HX⟩
  case round =>
    clear HP HB HX
    obtain ⟨i, rfl, HI, HP, HB, HX⟩ := hrel
    have hi0 := HI.out
    cases gk with
    | succ k1 =>
      have hi : i < li.length := by omega
      have b1 : decide ((i : Int) < (li.length : Int)) = true := decide_eq_true (by omega)
      have b3 : decide (i < li.length) = true := decide_eq_true hi
      have b4 := eq_true hi
      obtain ⟨ad, rfl, y0, y1⟩ := at_T42 HRI.out (i : Int) (by omega) (by omega)
      simp only [Int.toNat_natCast] at y0 y1
      obtain ⟨tk, mem⟩ := rd42 hi
      obtain ⟨x, hx_⟩ : ∃ x, rd_T42 li (i : Int) = x := ⟨_, rfl⟩
      rw [hx_] at y0 y1 tk mem
      clear hx_
      replace y0 := cell_below_ y0 HB.out
      replace y1 := cell_below_ y1 HB.out
      obtain ⟨x7, x8⟩ := XI.out x mem
      have sv := it_size x8
      have L1 := Aside0.mk (show (lineS 0 [(⟨#[105, 110, 105, 116]⟩ : ByteArray), x.f0, it x.f1]).size ≤ 1000 from Nat.le_trans (lineS_size 0 _) (by simp only [List.map_cons, List.map_nil, List.sum_cons, List.sum_nil, show (⟨#[105, 110, 105, 116]⟩ : ByteArray).size = 4 from rfl]; omega))
      have TS := Aside0.mk (show (catS ((li.take i).map initS)).size ≤ 1000 * i from inits_size (fun x hx => XI.out x hx) i)
      have TK := Aside0.mk tk
      have X7 := Aside0.mk x7
      have p1 := eq_true (show (i : Int) < (li.length : Int) by omega)
      have p0 := eq_true (show 0 ≤ (i : Int) by omega)
      clear hi0 sv tk mem x7
      go_upto_region 6 with ((with_reducible refine gate_dst (N := 5) rfl ?_); refine box_event ?hg (N := 5) ?hd (cs := #[.string ⟨#[]⟩, .int .i64 0]) (t := 42) ?hr ?_; (case hd => rfl); (case hg => rfl); (case hr => first | (go_simp; done) | (go_simp; rfl)); intro g5 hg__ w5 hbox_ hq_; have hg_ := Aside0.mk hg__; clear hg__; have z0_ := blk_celln hbox_ 0 _ rfl; have z1_ := blk_celln hbox_ 1 _ rfl; have f0_ := blk_frozen hbox_ 0; have f1_ := blk_frozen hbox_ 1)
      obtain ⟨F1_, F2_⟩ := fill42 hbox_ (.string x.f0) (.int .i64 x.f1) _ rfl
      replace hq_ := hq_.trans (F2_ _ (Nat.le_of_eq hg_.out.symm))
      clear hg_ hbox_ F2_ z0_ f0_ z1_ f1_ y0 y1
      generalize (w5.setCell ⟨g5, 0, none⟩ (.string x.f0)).setCell ⟨g5, 1, none⟩ (.int .i64 x.f1) = w6 at F1_ hq_ ⊢
      have H5 := Aside0.mk F1_
      replace HX := Aside0.mk (blk_below HX.out hq_)
      replace HP := Aside0.mk (HP.out.below hq_)
      replace HB := Aside0.mk (below_step HB.out hq_)
      clear F1_ hq_
      replace HX := Aside0.mk (blk_drew HX.out)
      replace H5 := Aside0.mk (blk_drew H5.out)
      replace HP := Aside0.mk (HP.out.below (below_drew (Below.refl _ _)))
      replace HB := Aside0.mk (below_drew HB.out)
      refine start_ (n := 8) (S := fun w' => w'.cell? ⟨g5, 0, none⟩ = some (.string x.f0) ∧ w'.cell? ⟨g5, 1, none⟩ = some (.int .i64 x.f1)) (ds := [7]) #[Z,Z,Z,Z,Z,Z,Z,Z] (by kernel_rfl) rfl rfl ⟨(blk_celln H5.out 0 _ rfl), (blk_celln H5.out 1 _ rfl)⟩ (fun hHeld => ?_)
      refine with_tabW progT.tab6 progT.bits6 (fun HT_ HW_ => ?_)
      generalize World.drew _ = wd6 at HX H5 HP HB hHeld ⊢
      refine pure_ (i := 0) (N := some 26) (v := ?_) (a' := ?_) #[Y,Z,Z,Z,Z,Z,Z,Z] rfl rfl (any_of HT_.out (by kernel_rfl)) (fun _ _ _ h => h) (Or.inl ⟨by rfl, ?_⟩) ?_ ?_
      rotate_left
      · intro w'
        go_simp
        with_reducible rfl
      rotate_left
      · simp only [Act.put, pA, pB, pC, i64_w, i32_w]
        rfl
      refine pure_ (i := 1) (N := some 27) (v := ?_) (a' := ?_) #[Y,Y,Z,Z,Z,Z,Z,Z] rfl rfl (any_of HT_.out (by kernel_rfl)) (fun _ _ _ h => h) (Or.inl ⟨by rfl, ?_⟩) ?_ ?_
      rotate_left
      · intro w'
        go_simp
        with_reducible rfl
      rotate_left
      · simp only [Act.put, pA, pB, pC, i64_w, i32_w]
        rfl
      refine take_ (i := 2) (N := some 28) (v := ?_) (a' := ?_) #[Y,Y,Y,Z,Z,Z,Z,Z] rfl rfl (take_ofW HT_.out HW_.out (by kernel_rfl)) (fun _ _ _ h => h) (Or.inl ⟨by rfl, ?_⟩) hHeld ?_ ?_
      rotate_left
      · rintro w' ⟨s0, s1⟩
        go_simp
        with_reducible rfl
      rotate_left
      · simp only [Act.put, pA, pB, pC, i64_w, i32_w]
        rfl
      refine pure_ (i := 3) (N := some 29) (v := ?_) (a' := ?_) #[Y,Y,Y,Y,Z,Z,Z,Z] rfl rfl (any_of HT_.out (by kernel_rfl)) (fun _ _ _ h => h) (Or.inl ⟨by rfl, ?_⟩) ?_ ?_
      rotate_left
      · intro w'
        go_simp
        with_reducible rfl
      rotate_left
      · simp only [Act.put, pA, pB, pC, i64_w, i32_w]
        rfl
      refine take_ (i := 4) (N := some 30) (v := ?_) (a' := ?_) #[Y,Y,Y,Y,Y,Z,Z,Z] rfl rfl (take_ofW HT_.out HW_.out (by kernel_rfl)) (fun _ _ _ h => h) (Or.inl ⟨by rfl, ?_⟩) hHeld ?_ ?_
      rotate_left
      · rintro w' ⟨s0, s1⟩
        go_simp
        with_reducible rfl
      rotate_left
      · simp only [Act.put, pA, pB, pC, i64_w, i32_w]
        rfl
      refine one_ (i := 5) (N := some 31) #[Y,Y,Y,Y,Y,Y,Z,Z] rfl rfl (one_of HT_.out (by kernel_rfl)) (by decide) (fun K hK => ?_)
      refine goes_ Tryd.func18 (by kernel_rfl) rfl #[.int .i64 x.f1] (by rfl) rfl rfl (by (try simp only [List.map_toArray, List.map_cons, List.map_nil]); first | done | rfl) ?_
      refine (strconv_Itoa_18.calls x.f1 (it x.f1) _ (ito_f x8) (GOk.le HG.out HB.out)).mono ?_
      rintro e wx ⟨rfl, qb⟩
      refine ⟨_, rfl, ?_⟩
      replace HX := Aside0.mk (blk_below HX.out qb)
      replace H5 := Aside0.mk (blk_below H5.out qb)
      replace HP := Aside0.mk (HP.out.below qb)
      replace HB := Aside0.mk (below_step HB.out qb)
      clear qb
      refine hK.out _ _ ⟨(blk_celln H5.out 0 _ rfl), (blk_celln H5.out 1 _ rfl)⟩ (fun hHeld => ?_)
      clear hK K
      refine norm_ (a' := ?_) ?_ ?_
      rotate_left
      · show Act.put _ (some 31) _ = _
        simp only [Act.put, pA, pB, pC, i64_w, i32_w]
        rfl
      refine one_ (i := 6) (N := some 32) #[Y,Y,Y,Y,Y,Y,Y,Z] rfl rfl (one_of HT_.out (by kernel_rfl)) (by decide) (fun K hK => ?_)
      refine lit_step ?hg (N := 32) ?hd (n := 3) (cs := ⟨[(⟨#[105, 110, 105, 116]⟩ : ByteArray), x.f0, it x.f1].map Value.string⟩) (t := 9) ?hr ?_; (case hd => rfl); (case hg => rfl); (case hr => first | (go_simp; done) | (go_simp; rfl))
      intro gs hg_ w9 hbox_ hq_
      have HL := Aside0.mk hbox_
      replace HX := Aside0.mk (blk_below HX.out hq_)
      replace H5 := Aside0.mk (blk_below H5.out hq_)
      replace HP := Aside0.mk (HP.out.below hq_)
      replace HB := Aside0.mk (below_step HB.out hq_)
      clear hg_ hbox_ hq_
      refine hK.out _ _ ⟨(blk_celln H5.out 0 _ rfl), (blk_celln H5.out 1 _ rfl)⟩ (fun hHeld => ?_)
      clear hK K
      refine norm_ (a' := ?_) ?_ ?_
      rotate_left
      · show Act.put _ (some 32) _ = _
        simp only [Act.put, pA, pB, pC, i64_w, i32_w]
        rfl
      refine last_ (i := 7) (N := some 33) #[Y,Y,Y,Y,Y,Y,Y,Y] rfl rfl (one_of HT_.out (by kernel_rfl)) (by decide) (fun K hK => ?_)
      refine goes_ Tryd.func17 (by kernel_rfl) rfl #[.pointer (some ⟨g, 0, none⟩), .slice (some ⟨gs, 0, none⟩) 3 3] (by rfl) rfl rfl (by (try simp only [List.map_toArray, List.map_cons, List.map_nil]); first | done | rfl) ?_
      have hW := line_c w.heap.size g (Lib.strCells (lineS 0 [(⟨#[108, 105, 116, 109, 117, 115]⟩ : ByteArray), nm, (⟨#[118, 97, 108, 117, 101, 115]⟩ : ByteArray), it vals] ++ catS ((li.take i).map initS))) 0 _ (some ⟨gs, 0, none⟩) 3 [(⟨#[105, 110, 105, 116]⟩ : ByteArray), x.f0, it x.f1] HP.out (by decide) (C_strs (show 3 ≤ 9223372036854775807 by decide) HL.out) (show 3 ≤ 3 by decide) HB.out.size (show 3 ≤ 1000 by decide) (Nat.le_trans L1.out (by decide)) (by have := L1.out; rw [Lib.strCells_length]; rw [ByteArray.size_append]; have := L0.out; have := TS.out; have := N2.out; have := HI.out; omega)
      refine hW.mono ?_
      clear hW
      rintro e wz ⟨rfl, q1, q2, q3⟩
      refine ⟨_, rfl, ?_⟩
      clear HL
      rw [← cells_app] at q1
      replace HX := Aside0.mk (keptB q3 HX.out (IsPG.ne HP.out HX.out (by decide)) (by decide))
      replace HP := Aside0.mk (show IsPG _ _ _ _ _ from Or.inr q1)
      replace HB := Aside0.mk (HB.out.trans q2)
      clear q1 q2 q3
      refine hK.out _ _ ?_
      clear hK K
      refine norm_ (a' := ?_) ?_ ?_
      rotate_left
      · show Act.put _ (some 33) _ = _
        simp only [Act.put, pA, pB, pC, i64_w, i32_w]
        rfl
      refine done_ (done_of HT_.out (by kernel_rfl)) ?_
      clear hHeld
      have ei : wrap64 ((i : Int) + 1) = ((i + 1 : Nat) : Int) := by
        have := N2.out
        rw [w64 (by omega) (by omega)]
        omega
      go_wp2
      (first | rw [ei] | skip)
      have hlt := HI.out
      have R1 := Aside0.mk (show IsPG w.heap.size g (Lib.strCells (lineS 0 [(⟨#[108, 105, 116, 109, 117, 115]⟩ : ByteArray), nm, (⟨#[118, 97, 108, 117, 101, 115]⟩ : ByteArray), it vals] ++ catS ((li.take (i + 1)).map initS))) ((0 : Nat) : Int) _ from by
        rw [TK.out, List.map_append, List.map_cons, List.map_nil, cat_snoc, ← ByteArray.append_assoc]
        exact HP.out)
      clear H5 HP p1 p0 b1 b3 b4 hi ei TS TK L1 X7 x8
      go_roundg k1
      case measure => exact Nat.lt_succ_self _
      case rel => exact ⟨i + 1, (by first | rfl | (simp; done)), ⟨Nat.add_right_comm i 1 k1 ▸ Nat.add_assoc i k1 1 ▸ hlt⟩, R1, HB, HX⟩
    | zero =>
      have hi : i = li.length := by omega
      have b1 : decide ((i : Int) < (li.length : Int)) = false := decide_eq_false (by omega)
      have b3 : decide (i < li.length) = false := decide_eq_false (by omega)
      have b4 := eq_false (show ¬ i < li.length by omega)
      have TS := Aside0.mk (show (lineS 0 [(⟨#[108, 105, 116, 109, 117, 115]⟩ : ByteArray), nm, (⟨#[118, 97, 108, 117, 101, 115]⟩ : ByteArray), it vals] ++ catS (li.map initS)).size ≤ 11000 from by
        have h1 := inits_size (fun x hx => XI.out x hx) li.length
        rw [List.take_length] at h1
        rw [ByteArray.size_append]
        have := L0.out; have := N2.out
        omega)
      rw [hi, List.take_length] at HP
      clear hi0 HI hi L0 XI
      generalize hX1 : lineS 0 [(⟨#[108, 105, 116, 109, 117, 115]⟩ : ByteArray), nm, (⟨#[118, 97, 108, 117, 101, 115]⟩ : ByteArray), it vals] ++ catS (li.map initS) = X1 at HP TS
      have HX1 := Aside0.mk hX1
      clear hX1
      have hz3 := blk_celln (HX.out) 3 _ rfl
      go_wp2
      clear hz3 b1 b3 b4
      go_loopg [38] lt.length (fun kq v38 w' => ∃ i : Nat, v38 = .int .i64 (i : Int) ∧ Aside0 (i + kq = lt.length) ∧ Aside0 (IsPG w.heap.size g (Lib.strCells (X1 ++ catS ((lt.take i).map thrS))) ((0 : Nat) : Int) w') ∧ Aside0 (Below w.heap.size w w') ∧ Aside0 (w'.heap[gb]? = some (.cells #[.string nm, .int .i64 vals, .slice AI li.length cI, .slice AT lt.length cT, .int .i64 ask, .int .i64 co, .int .i64 ct, .string cn, .int .i64 cnum, .slice AC lc.length cC] 28 (0, 0))))
      case atStart => exact ⟨0, rfl, ⟨by omega⟩, ⟨by rw [List.take_zero, List.map_nil, cat_nil]; exact HP.out⟩, HB, HX⟩
      case round =>
        clear HP HB HX
        obtain ⟨i, rfl, HI, HP, HB, HX⟩ := hrel
        have hi0 := HI.out
        cases gk with
        | succ k1 =>
          have hi : i < lt.length := by omega
          have b1 : decide ((i : Int) < (lt.length : Int)) = true := decide_eq_true (by omega)
          have b3 : decide (i < lt.length) = true := decide_eq_true hi
          have b4 := eq_true hi
          obtain ⟨ad, A8, c8, rfl, y0, l8, r8⟩ := at_L8 HRT.out (i : Int) (by omega) (by omega)
          simp only [Int.toNat_natCast] at y0
          obtain ⟨tk, mem⟩ := rd8 hi
          obtain ⟨x, hx_⟩ : ∃ x, rd_L8 lt (i : Int) = x := ⟨_, rfl⟩
          rw [hx_] at y0 tk mem l8 r8
          clear hx_
          replace y0 := cell_below_ y0 HB.out
          obtain ⟨x7, x8⟩ := XT.out x mem
          have X7 := Aside0.mk x7
          have X8 := Aside0.mk x8
          have R8 := Aside0.mk r8
          have C8 := Aside0.mk l8
          have TS2 := Aside0.mk (show (catS ((lt.take i).map thrS)).size ≤ 2000000000 * i from thrs_size (fun x hx => XT.out x hx) i)
          have TK := Aside0.mk tk
          have BS := Aside0.mk (Nat.le_trans (blS_size 13 1 x x7 (by decide)) (Nat.mul_le_mul_left 6000000 x8))
          have L2 := Aside0.mk (show (lineS 0 [(⟨#[116, 104, 114, 101, 97, 100, 32, 123]⟩ : ByteArray)]).size ≤ 1000 from Nat.le_trans (lineS_size 0 _) (by decide))
          have L3 := Aside0.mk (show (lineS 0 [(⟨#[125]⟩ : ByteArray)]).size ≤ 1000 from Nat.le_trans (lineS_size 0 _) (by decide))
          have p1 := eq_true (show (i : Int) < (lt.length : Int) by omega)
          have p0 := eq_true (show 0 ≤ (i : Int) by omega)
          clear hi0 tk mem x7 x8 r8 l8
          go_wp2_with ((with_reducible refine gate_dst (N := 43) rfl ?_); refine lit_event ?hg (N := 43) ?hd (n := 1) (cs := ⟨[(⟨#[116, 104, 114, 101, 97, 100, 32, 123]⟩ : ByteArray)].map Value.string⟩) (t := 9) ?hr ?_; (case hd => rfl); (case hg => rfl); (case hr => first | (go_simp; done) | (go_simp; rfl)); intro gs hg_ w9 hbox_ hq_; have HL := Aside0.mk hbox_; replace HX := Aside0.mk (blk_below HX.out hq_); replace HP := Aside0.mk (HP.out.below hq_); replace HB := Aside0.mk (below_step HB.out hq_); clear hg_ hbox_ hq_)
          have hW := line_c w.heap.size g (Lib.strCells (X1 ++ catS ((lt.take i).map thrS))) 0 _ (some ⟨gs, 0, none⟩) 1 [(⟨#[116, 104, 114, 101, 97, 100, 32, 123]⟩ : ByteArray)] HP.out (by decide) (C_strs (show 1 ≤ 9223372036854775807 by decide) HL.out) (show 1 ≤ 1 by decide) HB.out.size (show 1 ≤ 1000 by decide) (Nat.le_trans L2.out (by decide)) (by have := L2.out; rw [Lib.strCells_length]; rw [ByteArray.size_append]; have := TS.out; have := TS2.out; have := N3.out; have := HI.out; omega)
          refine hW.mono ?_
          clear hW
          rintro e wz ⟨rfl, q1, q2, q3⟩
          clear HL
          rw [← cells_app] at q1
          replace HX := Aside0.mk (keptB q3 HX.out (IsPG.ne HP.out HX.out (by decide)) (by decide))
          replace HP := Aside0.mk (show IsPG _ _ _ _ _ from Or.inr q1)
          replace HB := Aside0.mk (HB.out.trans q2)
          clear q1 q2 q3
          clear y0
          go_wp2_with (fail)
          have hW := block_c 13 w g (Lib.strCells ((X1 ++ catS ((lt.take i).map thrS)) ++ lineS 0 [(⟨#[116, 104, 114, 101, 97, 100, 32, 123]⟩ : ByteArray)])) 0 _ A8 c8 x HP.out HB.out (by decide) X7.out R8.out C8.out HG.out (by have := X8.out; have := L2.out; have := TS.out; have := TS2.out; have := N3.out; have := HI.out; rw [Lib.strCells_length, ByteArray.size_append, ByteArray.size_append]; omega)
          refine hW.mono ?_
          clear hW
          rintro e wz ⟨rfl, q1, q2, q3⟩
          rw [← cells_app] at q1
          replace HX := Aside0.mk (keptB q3 HX.out (IsPG.ne HP.out HX.out (by decide)) (by decide))
          replace HP := Aside0.mk q1
          replace HB := Aside0.mk q2
          clear q1 q2 q3
          go_wp2_with ((with_reducible refine gate_dst (N := 49) rfl ?_); refine lit_event ?hg (N := 49) ?hd (n := 1) (cs := ⟨[(⟨#[125]⟩ : ByteArray)].map Value.string⟩) (t := 9) ?hr ?_; (case hd => rfl); (case hg => rfl); (case hr => first | (go_simp; done) | (go_simp; rfl)); intro gs hg_ w9 hbox_ hq_; have HL := Aside0.mk hbox_; replace HX := Aside0.mk (blk_below HX.out hq_); replace HP := Aside0.mk (HP.out.below hq_); replace HB := Aside0.mk (below_step HB.out hq_); clear hg_ hbox_ hq_)
          have hW := line_c w.heap.size g (Lib.strCells ((X1 ++ catS ((lt.take i).map thrS) ++ lineS 0 [(⟨#[116, 104, 114, 101, 97, 100, 32, 123]⟩ : ByteArray)]) ++ blS 13 1 x)) 0 _ (some ⟨gs, 0, none⟩) 1 [(⟨#[125]⟩ : ByteArray)] HP.out (by decide) (C_strs (show 1 ≤ 9223372036854775807 by decide) HL.out) (show 1 ≤ 1 by decide) HB.out.size (show 1 ≤ 1000 by decide) (Nat.le_trans L3.out (by decide)) (by have := L3.out; rw [Lib.strCells_length]; rw [ByteArray.size_append, ByteArray.size_append, ByteArray.size_append]; have := BS.out; have := L2.out; have := TS.out; have := TS2.out; have := N3.out; have := HI.out; omega)
          refine hW.mono ?_
          clear hW
          rintro e wz ⟨rfl, q1, q2, q3⟩
          clear HL
          rw [← cells_app] at q1
          replace HX := Aside0.mk (keptB q3 HX.out (IsPG.ne HP.out HX.out (by decide)) (by decide))
          replace HP := Aside0.mk (show IsPG _ _ _ _ _ from Or.inr q1)
          replace HB := Aside0.mk (HB.out.trans q2)
          clear q1 q2 q3
          have ei : wrap64 ((i : Int) + 1) = ((i + 1 : Nat) : Int) := by
            have := N3.out
            rw [w64 (by omega) (by omega)]
            omega
          go_wp2
          (first | rw [ei] | skip)
          have hlt := HI.out
          have R1 := Aside0.mk (show IsPG w.heap.size g (Lib.strCells (X1 ++ catS ((lt.take (i + 1)).map thrS))) ((0 : Nat) : Int) _ from by
            rw [TK.out, List.map_append, List.map_cons, List.map_nil, cat_snoc, ← ByteArray.append_assoc]
            unfold thrS
            rw [← ByteArray.append_assoc, ← ByteArray.append_assoc]
            exact HP.out)
          clear HP p1 p0 b1 b3 b4 hi ei TS TS2 TK L2 L3 X7 X8 R8 C8 BS
          go_roundg k1
          case measure => exact Nat.lt_succ_self _
          case rel => exact ⟨i + 1, (by first | rfl | (simp; done)), ⟨Nat.add_right_comm i 1 k1 ▸ Nat.add_assoc i k1 1 ▸ hlt⟩, R1, HB, HX⟩
        | zero =>
          have hi : i = lt.length := by omega
          have b1 : decide ((i : Int) < (lt.length : Int)) = false := decide_eq_false (by omega)
          have b3 : decide (i < lt.length) = false := decide_eq_false (by omega)
          have b4 := eq_false (show ¬ i < lt.length by omega)
          have TS2 := Aside0.mk (show (X1 ++ catS (lt.map thrS)).size ≤ 20000011000 from by
            have h1 := thrs_size (fun x hx => XT.out x hx) lt.length
            rw [List.take_length] at h1
            rw [ByteArray.size_append]
            have := TS.out; have := N3.out
            omega)
          rw [hi, List.take_length] at HP
          clear hi0 HI hi TS XT
          have hCS := Nat.le_trans (cdS_size 13 (S26.mk co ct cn cnum lc) XC.out) (bndC_le 13 (by decide))
          have hz4 := blk_celln (HX.out) 4 _ rfl; have hz5 := blk_celln (HX.out) 5 _ rfl; have hz6 := blk_celln (HX.out) 6 _ rfl; have hz7 := blk_celln (HX.out) 7 _ rfl; have hz8 := blk_celln (HX.out) 8 _ rfl; have hz9 := blk_celln (HX.out) 9 _ rfl
          skip
          rcases Bool.eq_false_or_eq_true (ask == 1) with e1 | e1
          · have q1 : ask = 1 := eq_of_beq e1
            have L4 := Aside0.mk (show (lineS 0 [(⟨#[101, 120, 105, 115, 116, 115]⟩ : ByteArray), cdS 13 (S26.mk co ct cn cnum lc)]).size ≤ 1000000 from Nat.le_trans (lineS_size 0 _) (by simp only [List.map_cons, List.map_nil, List.sum_cons, List.sum_nil, show (⟨#[101, 120, 105, 115, 116, 115]⟩ : ByteArray).size = 6 from rfl]; omega))
            go_wp2_with (fail)
            refine (cond_c 13 (by decide) (S26.mk co ct cn cnum lc) AC cC _ XC.out (Kd.C_below HRC.out HB.out) hcc (GOk.le HG.out HB.out)).mono ?_
            rintro e wx ⟨rfl, qb⟩
            replace HX := Aside0.mk (blk_below HX.out qb)
            replace HP := Aside0.mk (HP.out.below qb)
            replace HB := Aside0.mk (below_step HB.out qb)
            clear qb hz4 hz5 hz6 hz7 hz8 hz9
            go_wp2_with ((with_reducible refine gate_dst (N := 63) rfl ?_); refine lit_event ?hg (N := 63) ?hd (n := 2) (cs := ⟨[(⟨#[101, 120, 105, 115, 116, 115]⟩ : ByteArray), cdS 13 (S26.mk co ct cn cnum lc)].map Value.string⟩) (t := 9) ?hr ?_; (case hd => rfl); (case hg => rfl); (case hr => first | (go_simp; done) | (go_simp; rfl)); intro gs hg_ w9 hbox_ hq_; have HL := Aside0.mk hbox_; replace HX := Aside0.mk (blk_below HX.out hq_); replace HP := Aside0.mk (HP.out.below hq_); replace HB := Aside0.mk (below_step HB.out hq_); clear hg_ hbox_ hq_)
            have hW := line_c w.heap.size g (Lib.strCells (X1 ++ catS (lt.map thrS))) 0 _ (some ⟨gs, 0, none⟩) 2 [(⟨#[101, 120, 105, 115, 116, 115]⟩ : ByteArray), cdS 13 (S26.mk co ct cn cnum lc)] HP.out (by decide) (C_strs (show 2 ≤ 9223372036854775807 by decide) HL.out) (show 2 ≤ 2 by decide) HB.out.size (show 2 ≤ 1000 by decide) (Nat.le_trans L4.out (by decide)) (by have := L4.out; rw [Lib.strCells_length]; have := TS2.out; omega)
            refine hW.mono ?_
            clear hW
            rintro e wz ⟨rfl, q1, q2, q3⟩
            clear HL
            rw [← cells_app] at q1
            replace HX := Aside0.mk (keptB q3 HX.out (IsPG.ne HP.out HX.out (by decide)) (by decide))
            replace HP := Aside0.mk (show IsPG _ _ _ _ _ from Or.inr q1)
            replace HB := Aside0.mk (HB.out.trans q2)
            clear q1 q2 q3
            go_wp2_with (fail)
            have hW := string_c w.heap.size g _ _ _ HP.out (by rw [ByteArray.size_append, lineS]; exact lineS_pos _ _ _)
            refine hW.mono ?_
            clear hW
            rintro e wx ⟨rfl, qb⟩
            go_wp2
            go_ret
            refine ⟨?_, HB.out.trans qb⟩
            rw [← HX1.out]
            unfold prS askS
            rw [if_pos q1]
            rfl
          have n1 : ¬ ask = 1 := fun q => by rw [q] at e1; exact absurd e1 (by decide)
          rcases Bool.eq_false_or_eq_true (ask == 2) with e2 | e2
          · have q2 : ask = 2 := eq_of_beq e2
            have L4 := Aside0.mk (show (lineS 0 [(⟨#[102, 111, 114, 97, 108, 108]⟩ : ByteArray), cdS 13 (S26.mk co ct cn cnum lc)]).size ≤ 1000000 from Nat.le_trans (lineS_size 0 _) (by simp only [List.map_cons, List.map_nil, List.sum_cons, List.sum_nil, show (⟨#[102, 111, 114, 97, 108, 108]⟩ : ByteArray).size = 6 from rfl]; omega))
            go_wp2_with (fail)
            refine (cond_c 13 (by decide) (S26.mk co ct cn cnum lc) AC cC _ XC.out (Kd.C_below HRC.out HB.out) hcc (GOk.le HG.out HB.out)).mono ?_
            rintro e wx ⟨rfl, qb⟩
            replace HX := Aside0.mk (blk_below HX.out qb)
            replace HP := Aside0.mk (HP.out.below qb)
            replace HB := Aside0.mk (below_step HB.out qb)
            clear qb hz4 hz5 hz6 hz7 hz8 hz9
            go_wp2_with ((with_reducible refine gate_dst (N := 63) rfl ?_); refine lit_event ?hg (N := 63) ?hd (n := 2) (cs := ⟨[(⟨#[102, 111, 114, 97, 108, 108]⟩ : ByteArray), cdS 13 (S26.mk co ct cn cnum lc)].map Value.string⟩) (t := 9) ?hr ?_; (case hd => rfl); (case hg => rfl); (case hr => first | (go_simp; done) | (go_simp; rfl)); intro gs hg_ w9 hbox_ hq_; have HL := Aside0.mk hbox_; replace HX := Aside0.mk (blk_below HX.out hq_); replace HP := Aside0.mk (HP.out.below hq_); replace HB := Aside0.mk (below_step HB.out hq_); clear hg_ hbox_ hq_)
            have hW := line_c w.heap.size g (Lib.strCells (X1 ++ catS (lt.map thrS))) 0 _ (some ⟨gs, 0, none⟩) 2 [(⟨#[102, 111, 114, 97, 108, 108]⟩ : ByteArray), cdS 13 (S26.mk co ct cn cnum lc)] HP.out (by decide) (C_strs (show 2 ≤ 9223372036854775807 by decide) HL.out) (show 2 ≤ 2 by decide) HB.out.size (show 2 ≤ 1000 by decide) (Nat.le_trans L4.out (by decide)) (by have := L4.out; rw [Lib.strCells_length]; have := TS2.out; omega)
            refine hW.mono ?_
            clear hW
            rintro e wz ⟨rfl, q1, q2, q3⟩
            clear HL
            rw [← cells_app] at q1
            replace HX := Aside0.mk (keptB q3 HX.out (IsPG.ne HP.out HX.out (by decide)) (by decide))
            replace HP := Aside0.mk (show IsPG _ _ _ _ _ from Or.inr q1)
            replace HB := Aside0.mk (HB.out.trans q2)
            clear q1 q2 q3
            go_wp2_with (fail)
            have hW := string_c w.heap.size g _ _ _ HP.out (by rw [ByteArray.size_append, lineS]; exact lineS_pos _ _ _)
            refine hW.mono ?_
            clear hW
            rintro e wx ⟨rfl, qb⟩
            go_wp2
            go_ret
            refine ⟨?_, HB.out.trans qb⟩
            rw [← HX1.out]
            unfold prS askS
            rw [if_neg n1, if_pos q2]
            rfl
          have n2 : ¬ ask = 2 := fun q => by rw [q] at e2; exact absurd e2 (by decide)
          have L4 := Aside0.mk (show (lineS 0 [(⟨#[]⟩ : ByteArray), cdS 13 (S26.mk co ct cn cnum lc)]).size ≤ 1000000 from Nat.le_trans (lineS_size 0 _) (by simp only [List.map_cons, List.map_nil, List.sum_cons, List.sum_nil, show (⟨#[]⟩ : ByteArray).size = 0 from rfl]; omega))
          go_wp2_with (fail)
          refine (cond_c 13 (by decide) (S26.mk co ct cn cnum lc) AC cC _ XC.out (Kd.C_below HRC.out HB.out) hcc (GOk.le HG.out HB.out)).mono ?_
          rintro e wx ⟨rfl, qb⟩
          replace HX := Aside0.mk (blk_below HX.out qb)
          replace HP := Aside0.mk (HP.out.below qb)
          replace HB := Aside0.mk (below_step HB.out qb)
          clear qb hz4 hz5 hz6 hz7 hz8 hz9
          go_wp2_with ((with_reducible refine gate_dst (N := 63) rfl ?_); refine lit_event ?hg (N := 63) ?hd (n := 2) (cs := ⟨[(⟨#[]⟩ : ByteArray), cdS 13 (S26.mk co ct cn cnum lc)].map Value.string⟩) (t := 9) ?hr ?_; (case hd => rfl); (case hg => rfl); (case hr => first | (go_simp; done) | (go_simp; rfl)); intro gs hg_ w9 hbox_ hq_; have HL := Aside0.mk hbox_; replace HX := Aside0.mk (blk_below HX.out hq_); replace HP := Aside0.mk (HP.out.below hq_); replace HB := Aside0.mk (below_step HB.out hq_); clear hg_ hbox_ hq_)
          have hW := line_c w.heap.size g (Lib.strCells (X1 ++ catS (lt.map thrS))) 0 _ (some ⟨gs, 0, none⟩) 2 [(⟨#[]⟩ : ByteArray), cdS 13 (S26.mk co ct cn cnum lc)] HP.out (by decide) (C_strs (show 2 ≤ 9223372036854775807 by decide) HL.out) (show 2 ≤ 2 by decide) HB.out.size (show 2 ≤ 1000 by decide) (Nat.le_trans L4.out (by decide)) (by have := L4.out; rw [Lib.strCells_length]; have := TS2.out; omega)
          refine hW.mono ?_
          clear hW
          rintro e wz ⟨rfl, q1, q2, q3⟩
          clear HL
          rw [← cells_app] at q1
          replace HX := Aside0.mk (keptB q3 HX.out (IsPG.ne HP.out HX.out (by decide)) (by decide))
          replace HP := Aside0.mk (show IsPG _ _ _ _ _ from Or.inr q1)
          replace HB := Aside0.mk (HB.out.trans q2)
          clear q1 q2 q3
          go_wp2_with (fail)
          have hW := string_c w.heap.size g _ _ _ HP.out (by rw [ByteArray.size_append, lineS]; exact lineS_pos _ _ _)
          refine hW.mono ?_
          clear hW
          rintro e wx ⟨rfl, qb⟩
          go_wp2
          go_ret
          refine ⟨?_, HB.out.trans qb⟩
          rw [← HX1.out]
          unfold prS askS
          rw [if_neg n1, if_neg n2]
          rfl
end Go.Proofs.YtpldhihdlgghlaaDoor.PS
