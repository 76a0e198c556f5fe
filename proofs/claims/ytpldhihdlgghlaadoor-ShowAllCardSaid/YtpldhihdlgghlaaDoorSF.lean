/- show's page: a statement, a block of them, an 'if'; walked by hand. -/
import Derived.Test.YtpldhihdlgghlaaDoorSE
namespace Go.Proofs.YtpldhihdlgghlaaDoor.PS
open Go.RowKit Go.Proofs.YtpldhihdlgghlaaDoorW.PrintWords Go.Proofs.YtpldhihdlgghlaaDoorW.PrintLast Go.Proofs.YtpldhihdlgghlaaDoorW.PrintMore
set_option linter.unusedVariables false
set_option linter.unusedSimpArgs false
attribute [local go_sem] cell_set_some
theorem keptB {g k : Nat} {w w' : World} {cs : Array Value} {t : TypeId} (h : Lib.OthersKept 5 (some g) w w') (hk : w.heap[k]? = some (.cells cs t (0, 0))) (hne : k ≠ g) (ht : t ≠ 5) : w'.heap[k]? = some (.cells cs t (0, 0)) :=
  h k _ hk (fun e => hne (Option.some.inj e)) (fun c fz e => by
    injection e with _ e2
    exact ht e2)
theorem IsPG.blk {B g : Nat} {bs : List Value} {d : Int} {w : World} (h : IsPG B g bs d w) : B ≤ g ∧ ∃ p v, w.heap[g]? = some (.cells #[p, v, .int .i64 d] 53 (0, 0)) := by
  rcases h with ⟨h1, v, hb, _⟩ | ⟨h1, v, hb, _⟩
  · exact ⟨h1, _, v, hb⟩
  · exact ⟨h1, _, v, hb⟩
theorem PG.setd {B g : Nat} {p : Value} {bs : List Value} {d : Int} {w : World} (h : PG B g p bs d w) (d' : Int) : PG B g p bs d' (w.setCell ⟨g, 2, none⟩ (.int .i64 d')) := by
  obtain ⟨hB, v, hbk, hown, hne⟩ := h
  exact ⟨hB, v, blk_put hbk 2 _ rfl, own_move hown (fun k hk => Below.heap_setCell _ ⟨g, 2, none⟩ _ k (fun e => hne (by rw [hk, e]))), hne⟩
theorem IsPG.setd {B g : Nat} {bs : List Value} {d : Int} {w : World} (h : IsPG B g bs d w) (d' : Int) : IsPG B g bs d' (w.setCell ⟨g, 2, none⟩ (.int .i64 d')) := h.imp (fun h => h.setd d') (fun h => h.setd d')
/-- A statement's text; its blocks' by 'blk'. -/
def stS (blk : Nat → List S45 → ByteArray) (d : Nat) (s : S45) : ByteArray :=
  if s.f0 = 1 then lineS d [s.f2, ⟨#[61]⟩, kidS 13 s.f4 0 ++ ⟨#[59]⟩]
  else if s.f0 = 2 then lineS d [s.f2, ⟨#[61, 32, 108, 111, 97, 100]⟩, modeS s.f1, s.f3 ++ ⟨#[59]⟩]
  else if s.f0 = 3 then lineS d [⟨#[115, 116, 111, 114, 101]⟩, modeS s.f1, s.f3, kidS 13 s.f4 0 ++ ⟨#[59]⟩]
  else if s.f0 = 4 then lineS d [s.f2, ⟨#[61, 32, 97, 100, 100]⟩, modeS s.f1, s.f3, kidS 13 s.f4 0 ++ ⟨#[59]⟩]
  else if s.f0 = 5 then lineS d [s.f2, ⟨#[61, 32, 99, 97, 115]⟩, modeS s.f1, s.f3, kidS 13 s.f4 0 ++ ⟨#[44]⟩, kidS 13 s.f4 1 ++ ⟨#[59]⟩]
  else if s.f0 = 6 then lineS d [⟨#[102, 101, 110, 99, 101]⟩, modeS s.f1 ++ ⟨#[59]⟩]
  else if s.f0 = 7 then lineS d [⟨#[105, 102]⟩, kidS 13 s.f4 0, ⟨#[123]⟩] ++ blk (d + 1) s.f5 ++ (if s.f6.length > 0 then lineS d [⟨#[125, 32, 101, 108, 115, 101, 32, 123]⟩] ++ blk (d + 1) s.f6 else ⟨#[]⟩) ++ lineS d [⟨#[125]⟩]
  else ⟨#[]⟩
def catS : List ByteArray → ByteArray
  | [] => ⟨#[]⟩
  | x :: l => x ++ catS l
/-- Statements' text, so far in. -/
def blS : Nat → Nat → List S45 → ByteArray
  | 0, _, _ => ⟨#[]⟩
  | k + 1, d, l => catS (l.map (stS (blS k) d))
/-- Statements of at most this depth, of names of at most 40 bytes. -/
def SX : Nat → List S45 → Prop
  | 0, _ => False
  | k + 1, l => ∀ s ∈ l, s.f2.size ≤ 40 ∧ s.f3.size ≤ 40 ∧ (∀ x ∈ s.f4, EX 13 x) ∧ SX k s.f5 ∧ SX k s.f6
/-- How many they are. -/
def cnt : Nat → List S45 → Nat
  | 0, _ => 0
  | k + 1, l => (l.map (fun s => 1 + cnt k s.f5 + cnt k s.f6)).sum
/-- What a block's contract says at a depth. -/
def BlockAt (k : Nat) : Prop := ∀ (w0 : World) (g : Nat) (bs : List Value) (d : Nat) (w : World) (A : Option Addr) (c : Nat) (l : List S45), IsPG w0.heap.size g bs d w → Below w0.heap.size w0 w → d + k ≤ 100 → SX k l → Kd.C k45 w0 A l.length l → l.length ≤ c → GOk w0 → bs.length + 8000000 * cnt k l ≤ 100000000000000 →
  Calls Tryd.prog 19 #[.pointer (some ⟨g, 0, none⟩), .slice A l.length c] w fun e w' => e = .returned (.tuple #[]) ∧ IsPG w0.heap.size g (bs ++ Lib.strCells (blS k (d + 1) l)) d w' ∧ Below w0.heap.size w0 w' ∧ Lib.OthersKept 5 (some g) w w'
theorem stS_size (blk : Nat → List S45 → ByteArray) (d : Nat) (s : S45) (n5 n6 : Nat) (hd : d ≤ 100) (h2 : s.f2.size ≤ 40) (h3 : s.f3.size ≤ 40) (hx : ∀ x ∈ s.f4, EX 13 x) (h5 : (blk (d + 1) s.f5).size ≤ n5) (h6 : (blk (d + 1) s.f6).size ≤ n6) : (stS blk d s).size ≤ 6000000 + n5 + n6 := by
  have s0 := Nat.le_trans (kidS_size hx 0) (bnd_le 13 (by decide))
  have s1 := Nat.le_trans (kidS_size hx 1) (bnd_le 13 (by decide))
  have sm := mode_size s.f1
  have z : ∀ (x : UInt8), (⟨#[x]⟩ : ByteArray).size = 1 := fun _ => rfl
  have L := lineS_size d
  unfold stS
  repeat' split
  all_goals try simp only [ByteArray.size_append, z]
  all_goals first
    | exact Nat.zero_le _
    | (refine Nat.le_trans (L _) ?_; simp only [List.map_cons, List.map_nil, List.sum_cons, List.sum_nil, ByteArray.size_append, z, show (⟨#[61, 32, 108, 111, 97, 100]⟩ : ByteArray).size = 6 from rfl, show (⟨#[115, 116, 111, 114, 101]⟩ : ByteArray).size = 5 from rfl, show (⟨#[61, 32, 97, 100, 100]⟩ : ByteArray).size = 5 from rfl, show (⟨#[61, 32, 99, 97, 115]⟩ : ByteArray).size = 5 from rfl, show (⟨#[102, 101, 110, 99, 101]⟩ : ByteArray).size = 5 from rfl]; omega)
    | (have a := L [⟨#[105, 102]⟩, kidS 13 s.f4 0, ⟨#[123]⟩]; have b := L [⟨#[125, 32, 101, 108, 115, 101, 32, 123]⟩]; have c := L [⟨#[125]⟩]; simp only [List.map_cons, List.map_nil, List.sum_cons, List.sum_nil, z, show (⟨#[105, 102]⟩ : ByteArray).size = 2 from rfl, show (⟨#[125, 32, 101, 108, 115, 101, 32, 123]⟩ : ByteArray).size = 8 from rfl, show (⟨#[]⟩ : ByteArray).size = 0 from rfl] at a b c ⊢; omega)
theorem IsPG.ne {B g k : Nat} {bs : List Value} {d : Int} {w : World} {cs : Array Value} {t : TypeId} (h : IsPG B g bs d w) (hk : w.heap[k]? = some (.cells cs t (0, 0))) (ht : t ≠ 53) : k ≠ g := by
  obtain ⟨_, p, v, hb⟩ := h.blk
  exact blk_ne hk hb ht
theorem cells_app (a b : ByteArray) : Lib.strCells (a ++ b) = Lib.strCells a ++ Lib.strCells b := by
  simp [Lib.strCells]
theorem cells_nil : Lib.strCells (⟨#[]⟩ : ByteArray) = [] := by simp [Lib.strCells]
set_option maxHeartbeats 8000000 in
set_option maxRecDepth 100000 in
theorem branch_c (k : Nat) (IH : BlockAt k) (w0 : World) (g : Nat) (bs : List Value) (d : Nat) (w : World) (s : S45) (A4 A5 A6 : Option Addr) (c4 c5 c6 : Nat) (h : IsPG w0.heap.size g bs d w) (hB0 : Below w0.heap.size w0 w) (hd : d + k ≤ 100) (r4 : Kd.C k31 w0 A4 s.f4.length s.f4) (hc4 : s.f4.length ≤ c4) (r5 : Kd.C k45 w0 A5 s.f5.length s.f5) (hc5 : s.f5.length ≤ c5) (r6 : Kd.C k45 w0 A6 s.f6.length s.f6) (hc6 : s.f6.length ≤ c6) (hx : ∀ x ∈ s.f4, EX 13 x) (x5 : SX k s.f5) (x6 : SX k s.f6) (hG : GOk w0)
    (b5 : (blS k (d + 1) s.f5).size ≤ 6000000 * cnt k s.f5) (b6 : (blS k (d + 1) s.f6).size ≤ 6000000 * cnt k s.f6) (hlen : bs.length + 8000000 * (1 + cnt k s.f5 + cnt k s.f6) ≤ 100000000000000) :
    Calls Tryd.prog 47 #[.pointer (some ⟨g, 0, none⟩), .agg #[.int .i64 s.f0, .int .i64 s.f1, .string s.f2, .string s.f3, .slice A4 s.f4.length c4, .slice A5 s.f5.length c5, .slice A6 s.f6.length c6]] w fun e w' => e = .returned (.tuple #[]) ∧ IsPG w0.heap.size g (((bs ++ Lib.strCells (lineS d [(⟨#[105, 102]⟩ : ByteArray), kidS 13 s.f4 0, (⟨#[123]⟩ : ByteArray)])) ++ Lib.strCells (blS k (d + 1) s.f5)) ++ Lib.strCells ((if s.f6.length > 0 then lineS d [(⟨#[125, 32, 101, 108, 115, 101, 32, 123]⟩ : ByteArray)] ++ blS k (d + 1) s.f6 else ⟨#[]⟩) ++ lineS d [(⟨#[125]⟩ : ByteArray)])) d w' ∧ Below w0.heap.size w0 w' ∧ Lib.OthersKept 5 (some g) w w' := by
  have hu45 := Tryd.underlying45
  have s0 := Nat.le_trans (kidS_size hx 0) (bnd_le 13 (by decide))
  have l1 : (lineS d [(⟨#[105, 102]⟩ : ByteArray), kidS 13 s.f4 0, (⟨#[123]⟩ : ByteArray)]).size ≤ 900000 := Nat.le_trans (lineS_size d _) (by simp only [List.map_cons, List.map_nil, List.sum_cons, List.sum_nil, show (⟨#[105, 102]⟩ : ByteArray).size = 2 from rfl, show (⟨#[123]⟩ : ByteArray).size = 1 from rfl]; omega)
  have l2 : (lineS d [(⟨#[125, 32, 101, 108, 115, 101, 32, 123]⟩ : ByteArray)]).size ≤ 1000 := Nat.le_trans (lineS_size d _) (by simp only [List.map_cons, List.map_nil, List.sum_cons, List.sum_nil, show (⟨#[125, 32, 101, 108, 115, 101, 32, 123]⟩ : ByteArray).size = 8 from rfl]; omega)
  have l3 : (lineS d [(⟨#[125]⟩ : ByteArray)]).size ≤ 1000 := Nat.le_trans (lineS_size d _) (by simp only [List.map_cons, List.map_nil, List.sum_cons, List.sum_nil, show (⟨#[125]⟩ : ByteArray).size = 1 from rfl]; omega)
  have LEN := Aside0.mk (show bs.length + (lineS d [(⟨#[105, 102]⟩ : ByteArray), kidS 13 s.f4 0, (⟨#[123]⟩ : ByteArray)]).size + (blS k (d + 1) s.f5).size + (lineS d [(⟨#[125, 32, 101, 108, 115, 101, 32, 123]⟩ : ByteArray)]).size + (blS k (d + 1) s.f6).size + (lineS d [(⟨#[125]⟩ : ByteArray)]).size + 1000000 + 8000000 * 0 ≤ 140737488355328 ∧ bs.length + 8000000 * (1 + cnt k s.f5 + cnt k s.f6) ≤ 100000000000000 ∧ (blS k (d + 1) s.f5).size ≤ 6000000 * cnt k s.f5 ∧ (lineS d [(⟨#[105, 102]⟩ : ByteArray), kidS 13 s.f4 0, (⟨#[123]⟩ : ByteArray)]).size ≤ 900000 ∧ (lineS d [(⟨#[125, 32, 101, 108, 115, 101, 32, 123]⟩ : ByteArray)]).size ≤ 1000 from ⟨by omega, hlen, b5, l1, l2⟩)
  have L1 := Aside0.mk l1
  have L2 := Aside0.mk l2
  have L3 := Aside0.mk l3
  have HP := Aside0.mk h
  have R4 := Aside0.mk r4
  have R5 := Aside0.mk r5
  have R6 := Aside0.mk r6
  have X5 := Aside0.mk x5
  have X6 := Aside0.mk x6
  have HG := Aside0.mk hG
  have HB := Aside0.mk hB0
  have HK := Aside0.mk (Lib.OthersKept.refl 5 (some g) w)
  clear h r4 r5 r6 x5 x6 hG hB0 l1 l2 l3 b5 b6 hlen s0
  go_enter Tryd.func47, Tryd.ntmps47
  go_upto_region 1 with ((with_reducible refine gate_dst (N := 3) rfl ?_); refine box_event ?hg (N := 3) ?hd (cs := #[.int .i64 s.f0, .int .i64 s.f1, .string s.f2, .string s.f3, .slice A4 s.f4.length c4, .slice A5 s.f5.length c5, .slice A6 s.f6.length c6]) (t := 45) ?hr ?_; (case hd => rfl); (case hg => rfl); (case hr => first | (go_simp; done) | (go_simp; rfl)); intro g1 hg1 w1 hbox hb1; have HX := Aside0.mk hbox; replace HP := Aside0.mk (HP.out.below hb1); replace HK := Aside0.mk (HK.out.trans (kept_below hb1)); replace HB := Aside0.mk (below_step HB.out hb1); clear hg1 hb1 hbox)
  have hz4 := blk_celln (HX.out) 4 _ rfl
  go_wp2_with (fail)
  refine (at_c _ A4 c4 s.f4 0 (by decide) (Kd.C_below R4.out HB.out) hc4 hx (GOk.le HG.out HB.out)).mono ?_
  rintro e wa ⟨rfl, qb⟩
  replace HX := Aside0.mk (blk_below HX.out qb)
  replace HP := Aside0.mk (HP.out.below qb)
  replace HK := Aside0.mk (HK.out.trans (kept_below qb))
  replace HB := Aside0.mk (below_step HB.out qb)
  clear qb hz4
  go_wp2_with ((with_reducible refine gate_dst (N := 8) rfl ?_); refine lit_event ?hg (N := 8) ?hd (n := 3) (cs := ⟨[(⟨#[105, 102]⟩ : ByteArray), kidS 13 s.f4 0, (⟨#[123]⟩ : ByteArray)].map Value.string⟩) (t := 9) ?hr ?_; (case hd => rfl); (case hg => rfl); (case hr => first | (go_simp; done) | (go_simp; rfl)); intro gs hg_ w9 hbox_ hq_; have HL := Aside0.mk hbox_; replace HX := Aside0.mk (blk_below HX.out hq_); replace HP := Aside0.mk (HP.out.below hq_); replace HK := Aside0.mk (HK.out.trans (kept_below hq_)); replace HB := Aside0.mk (below_step HB.out hq_); clear hg_ hbox_ hq_)
  have hW := line_c w0.heap.size g (bs) d _ (some ⟨gs, 0, none⟩) 3 [(⟨#[105, 102]⟩ : ByteArray), kidS 13 s.f4 0, (⟨#[123]⟩ : ByteArray)] HP.out (by omega) (C_strs (show 3 ≤ 9223372036854775807 by decide) HL.out) (show 3 ≤ 3 by decide) HB.out.size (show 3 ≤ 1000 by decide) (Nat.le_trans L1.out (by decide)) (by have := LEN.out; have := L1.out; (try simp only [List.length_append, Lib.strCells_length]); omega)
  refine hW.mono ?_
  clear hW
  rintro e wz ⟨rfl, q1, q2, q3⟩
  clear HL
  replace HX := Aside0.mk (keptB q3 HX.out (IsPG.ne HP.out HX.out (by decide)) (by decide))
  replace HP := Aside0.mk (show IsPG _ _ _ _ _ from Or.inr q1)
  replace HB := Aside0.mk (HB.out.trans q2)
  replace HK := Aside0.mk (HK.out.trans q3)
  clear q1 q2 q3
  have hz5 := blk_celln (HX.out) 5 _ rfl
  go_wp2_with (fail)
  refine (IH w0 g (bs ++ Lib.strCells (lineS d [(⟨#[105, 102]⟩ : ByteArray), kidS 13 s.f4 0, (⟨#[123]⟩ : ByteArray)])) d _ A5 c5 s.f5 HP.out HB.out (by omega) X5.out R5.out hc5 HG.out (by have := LEN.out; (try simp only [List.length_append, Lib.strCells_length]); omega)).mono ?_
  rintro e wz ⟨rfl, q1, q2, q3⟩
  replace HX := Aside0.mk (keptB q3 HX.out (IsPG.ne HP.out HX.out (by decide)) (by decide))
  replace HP := Aside0.mk q1
  replace HB := Aside0.mk q2
  replace HK := Aside0.mk (HK.out.trans q3)
  clear q1 q2 q3
  clear hz5
  have hz6 := blk_celln (HX.out) 6 _ rfl
  by_cases hpos : s.f6.length > 0
  · have b1 : decide (s.f6.length > 0) = true := decide_eq_true hpos
    have b2 : decide ((0 : Int) < (s.f6.length : Int)) = true := decide_eq_true (by omega)
    go_wp2_with ((with_reducible refine gate_dst (N := 19) rfl ?_); refine lit_event ?hg (N := 19) ?hd (n := 1) (cs := ⟨[(⟨#[125, 32, 101, 108, 115, 101, 32, 123]⟩ : ByteArray)].map Value.string⟩) (t := 9) ?hr ?_; (case hd => rfl); (case hg => rfl); (case hr => first | (go_simp; done) | (go_simp; rfl)); intro gs hg_ w9 hbox_ hq_; have HL := Aside0.mk hbox_; replace HX := Aside0.mk (blk_below HX.out hq_); replace HP := Aside0.mk (HP.out.below hq_); replace HK := Aside0.mk (HK.out.trans (kept_below hq_)); replace HB := Aside0.mk (below_step HB.out hq_); clear hg_ hbox_ hq_)
    have hW := line_c w0.heap.size g ((bs ++ Lib.strCells (lineS d [(⟨#[105, 102]⟩ : ByteArray), kidS 13 s.f4 0, (⟨#[123]⟩ : ByteArray)])) ++ Lib.strCells (blS k (d + 1) s.f5)) d _ (some ⟨gs, 0, none⟩) 1 [(⟨#[125, 32, 101, 108, 115, 101, 32, 123]⟩ : ByteArray)] HP.out (by omega) (C_strs (show 1 ≤ 9223372036854775807 by decide) HL.out) (show 1 ≤ 1 by decide) HB.out.size (show 1 ≤ 1000 by decide) (Nat.le_trans L2.out (by decide)) (by have := LEN.out; have := L2.out; (try simp only [List.length_append, Lib.strCells_length]); omega)
    refine hW.mono ?_
    clear hW
    rintro e wz ⟨rfl, q1, q2, q3⟩
    clear HL
    replace HX := Aside0.mk (keptB q3 HX.out (IsPG.ne HP.out HX.out (by decide)) (by decide))
    replace HP := Aside0.mk (show IsPG _ _ _ _ _ from Or.inr q1)
    replace HB := Aside0.mk (HB.out.trans q2)
    replace HK := Aside0.mk (HK.out.trans q3)
    clear q1 q2 q3
    clear hz6
    have hz6 := blk_celln (HX.out) 6 _ rfl
    go_wp2_with (fail)
    refine (IH w0 g (((bs ++ Lib.strCells (lineS d [(⟨#[105, 102]⟩ : ByteArray), kidS 13 s.f4 0, (⟨#[123]⟩ : ByteArray)])) ++ Lib.strCells (blS k (d + 1) s.f5)) ++ Lib.strCells (lineS d [(⟨#[125, 32, 101, 108, 115, 101, 32, 123]⟩ : ByteArray)])) d _ A6 c6 s.f6 HP.out HB.out (by omega) X6.out R6.out hc6 HG.out (by have := LEN.out; (try simp only [List.length_append, Lib.strCells_length]); omega)).mono ?_
    rintro e wz ⟨rfl, q1, q2, q3⟩
    replace HX := Aside0.mk (keptB q3 HX.out (IsPG.ne HP.out HX.out (by decide)) (by decide))
    replace HP := Aside0.mk q1
    replace HB := Aside0.mk q2
    replace HK := Aside0.mk (HK.out.trans q3)
    clear q1 q2 q3
    clear hz6
    go_wp2_with ((with_reducible refine gate_dst (N := 26) rfl ?_); refine lit_event ?hg (N := 26) ?hd (n := 1) (cs := ⟨[(⟨#[125]⟩ : ByteArray)].map Value.string⟩) (t := 9) ?hr ?_; (case hd => rfl); (case hg => rfl); (case hr => first | (go_simp; done) | (go_simp; rfl)); intro gs hg_ w9 hbox_ hq_; have HL := Aside0.mk hbox_; replace HX := Aside0.mk (blk_below HX.out hq_); replace HP := Aside0.mk (HP.out.below hq_); replace HK := Aside0.mk (HK.out.trans (kept_below hq_)); replace HB := Aside0.mk (below_step HB.out hq_); clear hg_ hbox_ hq_)
    have hW := line_c w0.heap.size g ((((bs ++ Lib.strCells (lineS d [(⟨#[105, 102]⟩ : ByteArray), kidS 13 s.f4 0, (⟨#[123]⟩ : ByteArray)])) ++ Lib.strCells (blS k (d + 1) s.f5)) ++ Lib.strCells (lineS d [(⟨#[125, 32, 101, 108, 115, 101, 32, 123]⟩ : ByteArray)])) ++ Lib.strCells (blS k (d + 1) s.f6)) d _ (some ⟨gs, 0, none⟩) 1 [(⟨#[125]⟩ : ByteArray)] HP.out (by omega) (C_strs (show 1 ≤ 9223372036854775807 by decide) HL.out) (show 1 ≤ 1 by decide) HB.out.size (show 1 ≤ 1000 by decide) (Nat.le_trans L3.out (by decide)) (by have := LEN.out; have := L3.out; (try simp only [List.length_append, Lib.strCells_length]); omega)
    refine hW.mono ?_
    clear hW
    rintro e wz ⟨rfl, q1, q2, q3⟩
    clear HL
    replace HX := Aside0.mk (keptB q3 HX.out (IsPG.ne HP.out HX.out (by decide)) (by decide))
    replace HP := Aside0.mk (show IsPG _ _ _ _ _ from Or.inr q1)
    replace HB := Aside0.mk (HB.out.trans q2)
    replace HK := Aside0.mk (HK.out.trans q3)
    clear q1 q2 q3
    go_wp2
    go_end0
    refine ⟨rfl, ?_, HB.out, HK.out⟩
    try rw [if_pos hpos]
    have e := HP.out
    simpa only [cells_app, List.append_assoc] using e
  · have b1 : decide (s.f6.length > 0) = false := decide_eq_false hpos
    have b2 : decide ((0 : Int) < (s.f6.length : Int)) = false := decide_eq_false (by omega)
    go_wp2_with ((with_reducible refine gate_dst (N := 26) rfl ?_); refine lit_event ?hg (N := 26) ?hd (n := 1) (cs := ⟨[(⟨#[125]⟩ : ByteArray)].map Value.string⟩) (t := 9) ?hr ?_; (case hd => rfl); (case hg => rfl); (case hr => first | (go_simp; done) | (go_simp; rfl)); intro gs hg_ w9 hbox_ hq_; have HL := Aside0.mk hbox_; replace HX := Aside0.mk (blk_below HX.out hq_); replace HP := Aside0.mk (HP.out.below hq_); replace HK := Aside0.mk (HK.out.trans (kept_below hq_)); replace HB := Aside0.mk (below_step HB.out hq_); clear hg_ hbox_ hq_)
    have hW := line_c w0.heap.size g ((bs ++ Lib.strCells (lineS d [(⟨#[105, 102]⟩ : ByteArray), kidS 13 s.f4 0, (⟨#[123]⟩ : ByteArray)])) ++ Lib.strCells (blS k (d + 1) s.f5)) d _ (some ⟨gs, 0, none⟩) 1 [(⟨#[125]⟩ : ByteArray)] HP.out (by omega) (C_strs (show 1 ≤ 9223372036854775807 by decide) HL.out) (show 1 ≤ 1 by decide) HB.out.size (show 1 ≤ 1000 by decide) (Nat.le_trans L3.out (by decide)) (by have := LEN.out; have := L3.out; (try simp only [List.length_append, Lib.strCells_length]); omega)
    refine hW.mono ?_
    clear hW
    rintro e wz ⟨rfl, q1, q2, q3⟩
    clear HL
    replace HX := Aside0.mk (keptB q3 HX.out (IsPG.ne HP.out HX.out (by decide)) (by decide))
    replace HP := Aside0.mk (show IsPG _ _ _ _ _ from Or.inr q1)
    replace HB := Aside0.mk (HB.out.trans q2)
    replace HK := Aside0.mk (HK.out.trans q3)
    clear q1 q2 q3
    go_wp2
    go_end0
    refine ⟨rfl, ?_, HB.out, HK.out⟩
    try rw [if_neg hpos]
    have e := HP.out
    simpa only [cells_app, cells_nil, List.append_assoc, List.nil_append] using e
end Go.Proofs.YtpldhihdlgghlaaDoor.PS
