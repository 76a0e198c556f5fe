-- made by fvprint.py over the kit's print
import Derived.Test.YtpldhihdlgghlaaDoorPSx0
import Derived.Test.YtpldhihdlgghlaaDoorShelf
import Derived.Lib.SmallJoins
import Derived.Lib.LaidTab
import Derived.Lib.ItoaNum
namespace Go.Proofs.YtpldhihdlgghlaaDoor.PS
open Go.RowKit Go.Proofs.YtpldhihdlgghlaaDoorW.PrintWords Go.Proofs.YtpldhihdlgghlaaDoorW.PrintLast Go.Proofs.YtpldhihdlgghlaaDoorW.PrintMore
attribute [local go_sem] max2_int min2_int max_two min_two max_three min_three max_four min_four   -- for this text's walks alone
set_option linter.unusedVariables false
set_option linter.unusedSimpArgs false

attribute [local go_sem] cell_set_some
/-! ### the table that is looked into -/
def GOk (w : World) : Prop := Go.Lib.TabIs Tryd.prog w "internal/strconv.uint64pow10" .u64 Go.Lib.pow10Tab
theorem GOk.le {w0 W : World} (h : GOk w0) (hb : Below w0.heap.size w0 W) : GOk W := Go.Joins.tab_stays (g := 0) (by kernel_rfl) h hb (Nat.le_refl _)

/-! ### strconv_Itoa_18: function 18 -/
def strconv_Itoa_18.f (a0 : Int) : Option ByteArray := if -9223372036854775808 ≤ a0 ∧ a0 ≤ 9223372036854775807 then some ⟨(Go.Lib.itoa a0).toArray⟩ else none
theorem strconv_Itoa_18.calls (a0 : Int) (r : ByteArray) (w : World) (h : strconv_Itoa_18.f a0 = some r) (hG : GOk w := by first | exact Aside0.out (by assumption) | exact GOk.le (Aside0.out (by assumption)) (by repeat (first | exact Aside0.out (by assumption) | exact Below.refl _ _ | apply below_alloc | apply pw_below_drewN | apply below_drew1 | refine below_set ?_ (Aside0.out (by assumption))))) :
    Calls Tryd.prog 18 #[.int .i64 a0] w fun e w' => e = .returned (.string r) ∧ Below w.heap.size w w' := by
  unfold strconv_Itoa_18.f at h
  split at h
  · rename_i hb
    obtain rfl := Option.some.inj h
    refine (Tryd.strconv_Itoa a0 hb.1 hb.2 w hG).mono ?_
    rintro e w' ⟨rfl, k, os, rfl⟩
    refine ⟨rfl, rfl, rfl, rfl, ?_, fun i hi => ?_⟩
    · show w.heap.size ≤ (w.heap ++ os).size
      rw [Array.size_append]
      omega
    · show (w.heap ++ os)[i]? = w.heap[i]?
      rw [Array.getElem?_append_left hi]
  · cases h

-- NOT PRINTED: function 12 (show_Cond)

-- NOT PRINTED: function 20 (strings_Builder_String)

-- NOT PRINTED: function 48 (abi_NoEscape)

-- NOT PRINTED: function 35 (strings_Builder_copyCheck)

-- NOT PRINTED: function 29 (strings_Builder_WriteString)

/-! ### strings_Join: function 31 -/
def strings_Join.f (l0 : List ByteArray) (a1 : ByteArray) : Option ByteArray := if l0.length ≤ 140737488355328 ∧ (Go.Lib.join (l0.map (·.data.toList)) a1.data.toList).length ≤ 140737488355328 then some ⟨(Go.Lib.join (l0.map (·.data.toList)) a1.data.toList).toArray⟩ else none
theorem strings_Join.calls (A0 : Option Addr) (c0 : Nat) (l0 : List ByteArray) (a1 : ByteArray) (r : ByteArray) (w : World) (hr0 : Kd.C Kd.string w A0 l0.length l0) (hc0 : l0.length ≤ c0) (h : strings_Join.f l0 a1 = some r) :
    Calls Tryd.prog 31 #[.slice A0 l0.length c0, .string a1] w fun e w' => e = .returned (.string r) ∧ Below w.heap.size w w' := by
  unfold strings_Join.f at h
  split at h
  · rename_i hb
    obtain rfl := Option.some.inj h
    by_cases h0 : 0 < l0.length
    · obtain ⟨ad, rfl, hcell⟩ := hr0.2.2 h0
      have hc : ∀ (j : Nat) x, l0[j]? = some x → w.cell? (ad.add j) = some (.string x) := fun j x hj => by
        obtain ⟨c, _, rfl, hu⟩ := hcell j x hj
        have := hu 0 (.string x) rfl
        rw [Nat.add_zero] at this
        rwa [show Kd.string.sz = 1 from rfl, Nat.mul_one] at this
      have h00 := hc 0 _ (List.getElem?_eq_getElem h0)
      have hsp : ad.spot = none := by
        have h1 : w.cell? ad = some (.string l0[0]) := h00
        unfold World.cell? at h1
        split at h1
        · split at h1
          · cases h1
          · rename_i hs
            simpa using hs
        · cases h1
      obtain ⟨bk, o, sp⟩ := ad
      obtain rfl : sp = none := hsp
      have hbk : bk < w.heap.size := World.block_lt_of_cell? w _ (show w.cell? ⟨bk, o, none⟩ = _ from h00)
      refine (Tryd.strings_Join bk o c0 l0 a1 w (fun j x hj => ?_) hbk hb.1 hc0 hb.2).mono ?_
      · have := hc j x hj
        unfold Addr.add at this
        split at this
        · rename_i hj0
          subst hj0
          exact this
        · exact this
      · rintro e w' ⟨rfl, hb⟩
        exact ⟨rfl, hb⟩
    · have hl : l0 = [] := List.eq_nil_of_length_eq_zero (by omega)
      subst hl
      refine (Tryd.strings_Join_none A0 c0 a1 w).mono ?_
      rintro e w' ⟨rfl, rfl⟩
      exact ⟨rfl, Below.refl _ _⟩
  · cases h

-- NOT PRINTED: function 17 (show_page_line)

-- NOT PRINTED: function 33 (show_page_stmt)

-- NOT PRINTED: function 19 (show_page_block)

-- NOT PRINTED: function 8 (show_Prog)

/-! ### show_word: function 23 -/
def show_word.f (l0 : List ByteArray) (a1 : Int) : Option (ByteArray) := if a1 < 0 then (some (⟨#[]⟩ : ByteArray)) else (if a1 ≥ (l0.length : Int) then (some (⟨#[]⟩ : ByteArray)) else (if 0 ≤ a1 then (if a1 < (l0.length : Int) then (some (rdOf ByteArray.empty l0 a1)) else (none)) else (none)))
set_option maxHeartbeats 8000000 in
set_option maxRecDepth 100000 in
theorem show_word.calls (A0 : Option Addr) (c0 : Nat) (l0 : List ByteArray) (a1 : Int) (r : ByteArray) (w : World) (hr0 : Kd.C Kd.string w A0 l0.length l0) (hc0 : l0.length ≤ c0) (h : show_word.f l0 a1 = some r) :
    Calls Tryd.prog 23 #[.slice A0 l0.length c0, .int .i64 a1] w fun e w' => e = .returned (.string r) ∧ Drawn0 w w' := by
  have HR0 := Aside0.mk hr0
  have HC0 := Aside0.mk hc0
  clear hr0 hc0
  have H : (if a1 < 0 then (some (⟨#[]⟩ : ByteArray)) else (if a1 ≥ (l0.length : Int) then (some (⟨#[]⟩ : ByteArray)) else (if 0 ≤ a1 then (if a1 < (l0.length : Int) then (some (rdOf ByteArray.empty l0 a1)) else (none)) else (none)))) = some r := h
  clear h
  by_cases c3 : a1 < 0
  · rw [if_pos c3] at H
    have c3b0 : decide (a1 < 0) = true := decide_eq_true c3
    clear c3
    obtain rfl := Option.some.inj H
    go_enter Tryd.func23, Tryd.ntmps23
    go_wp2
    go_ret
    exact ⟨by first | rfl | (simp; done) | (simp [*]; done), by repeat (first | exact Drawn0.refl _ | apply Drawn0.step)⟩
  · rw [if_neg c3] at H
    have c3b0 : decide (a1 < 0) = false := decide_eq_false c3
    clear c3
    by_cases c4 : a1 ≥ (l0.length : Int)
    · rw [if_pos c4] at H
      have c4b0 : decide ((l0.length : Int) ≤ a1) = true := decide_eq_true c4
      clear c4
      obtain rfl := Option.some.inj H
      go_enter Tryd.func23, Tryd.ntmps23
      go_wp2
      go_ret
      exact ⟨by first | rfl | (simp; done) | (simp [*]; done), by repeat (first | exact Drawn0.refl _ | apply Drawn0.step)⟩
    · rw [if_neg c4] at H
      have c4b0 : decide ((l0.length : Int) ≤ a1) = false := decide_eq_false c4
      clear c4
      by_cases c5 : 0 ≤ a1
      · rw [if_pos c5] at H
        have c5b0 : decide (0 ≤ a1) = true := decide_eq_true c5
        clear c5
        by_cases c6 : a1 < (l0.length : Int)
        · rw [if_pos c6] at H
          have c6b0 : decide (a1 < (l0.length : Int)) = true := decide_eq_true c6
          clear c6
          obtain rfl := Option.some.inj H
          have p107 : 0 ≤ (a1 : Int) := of_decide_eq_true (by first | (with_reducible assumption) | assumption)
          have q107 : a1 < (l0.length : Int) := of_decide_eq_true (by first | (with_reducible assumption) | assumption)
          obtain ⟨ad107, e107, hx107_0⟩ := Kd.at_string HR0.out a1 p107 q107
          cases e107
          replace p107 := eq_true p107
          replace q107 := eq_true q107
          go_enter Tryd.func23, Tryd.ntmps23
          go_wp2
          go_ret
          exact ⟨by first | rfl | (simp; done) | (simp [*]; done), by repeat (first | exact Drawn0.refl _ | apply Drawn0.step)⟩
        · rw [if_neg c6] at H
          exact absurd H (by simp)
      · rw [if_neg c5] at H
        exact absurd H (by simp)

-- NOT PRINTED: function 24 (api_Expr)

end Go.Proofs.YtpldhihdlgghlaaDoor.PS
