-- PRINTED BY print.sh 35421559b90ae4d0a3588c463048766b98c2df88dd9212a6774a882060cdf62d: not written by this session
import Derived.Test.YtcmofedfbjpjlaaPRightx0
namespace Go.Proofs.Ytcmofedfbjpjlaa.PRight
open Go.RowKit Go.Proofs.YtcmofedfbjpjlaaW.PrintWords Go.Proofs.YtcmofedfbjpjlaaW.PrintLast Go.Proofs.YtcmofedfbjpjlaaW.PrintMore
attribute [local go_sem] max2_int min2_int max_two min_two max_three min_three max_four min_four   -- for this text's walks alone
set_option linter.unusedVariables false
set_option linter.unusedSimpArgs false

/-! ### lancetref04_Right: function 41 -/
def lancetref04_Right.l0 : Nat → Int → Int → Int → Int → Int → Bool → Int → Option (Bool)
  | 0, _, _, _, _, _, _, _ => none
  | k + 1, x3, x4, x102000, x102001, x102002, x102003, x102004 => if x4 < x102000 then (if x4 < 40 then (lancetref04_Right.l0 k (IntKind.u64.wrap (x3 * 2)) (wrap64 (x4 + 1)) x102000 x102001 x102002 x102003 x102004) else (if x102000 = 8 then (if (IntKind.u64.wrap (x102001)) < x3 then (if (IntKind.u64.wrap (x102002)) < x3 then (some (decide ((IntKind.u64.wrap (x102004)) < x3))) else (some false)) else (some false)) else (if x102000 = 16 then (if (IntKind.u64.wrap (x102001)) < x3 then (if (IntKind.u64.wrap (x102002)) < x3 then (some (decide ((IntKind.u64.wrap (x102004)) < x3))) else (some false)) else (some false)) else (if x102000 = 32 then (if (IntKind.u64.wrap (x102001)) < x3 then (if (IntKind.u64.wrap (x102002)) < x3 then (some (decide ((IntKind.u64.wrap (x102004)) < x3))) else (some false)) else (some false)) else (some false))))) else (if x102000 = 8 then (if (IntKind.u64.wrap (x102001)) < x3 then (if (IntKind.u64.wrap (x102002)) < x3 then (some (decide ((IntKind.u64.wrap (x102004)) < x3))) else (some false)) else (some false)) else (if x102000 = 16 then (if (IntKind.u64.wrap (x102001)) < x3 then (if (IntKind.u64.wrap (x102002)) < x3 then (some (decide ((IntKind.u64.wrap (x102004)) < x3))) else (some false)) else (some false)) else (if x102000 = 32 then (if (IntKind.u64.wrap (x102001)) < x3 then (if (IntKind.u64.wrap (x102002)) < x3 then (some (decide ((IntKind.u64.wrap (x102004)) < x3))) else (some false)) else (some false)) else (some false))))
def lancetref04_Right.f (k : Nat) (a0_0 : Int) (a0_1 : Int) (a0_2 : Int) (a0_3 : Bool) (a0_4 : Int) : Option (Bool) := lancetref04_Right.l0 k 1 0 a0_0 a0_1 a0_2 a0_3 a0_4
theorem lancetref04_Right.mono_l : ∀ k, (∀ y0 y1 y2 y3 y4 y5 y6, LeO (lancetref04_Right.l0 k y0 y1 y2 y3 y4 y5 y6) (lancetref04_Right.l0 (k + 1) y0 y1 y2 y3 y4 y5 y6))
  | 0 => fun _ _ _ _ _ _ _ r h => by simp [lancetref04_Right.l0] at h
  | k + 1 => by
    have ih0 := lancetref04_Right.mono_l k
    · intro y0 y1 y2 y3 y4 y5 y6
      unfold lancetref04_Right.l0
      repeat' first
      | (with_reducible exact ih0 _ _ _ _ _ _ _)
      | (with_reducible exact LeO.refl _)
      | (with_reducible exact LeO.none _)
      | (with_reducible refine LeO.ite ?_ ?_)
      | (with_reducible refine LeO.bind ?_ (fun _ => ?_))
      | exact ih0 _ _ _ _ _ _ _
      | exact LeO.none _
      | refine LeO.ite ?_ ?_
      | refine LeO.bind ?_ (fun _ => ?_)
theorem lancetref04_Right.mono : ∀ a0 a1 a2 a3 a4 k, LeO (lancetref04_Right.f k a0 a1 a2 a3 a4) (lancetref04_Right.f (k + 1) a0 a1 a2 a3 a4) := by
  intro a0 a1 a2 a3 a4 k
  have ih0 := lancetref04_Right.mono_l k
  unfold lancetref04_Right.f
  repeat' first
      | (with_reducible exact ih0 _ _ _ _ _ _ _)
      | (with_reducible exact LeO.refl _)
      | (with_reducible exact LeO.none _)
      | (with_reducible refine LeO.ite ?_ ?_)
      | (with_reducible refine LeO.bind ?_ (fun _ => ?_))
      | exact ih0 _ _ _ _ _ _ _
      | exact LeO.none _
      | refine LeO.ite ?_ ?_
      | refine LeO.bind ?_ (fun _ => ?_)
set_option maxHeartbeats 8000000 in
set_option maxRecDepth 100000 in
theorem lancetref04_Right.calls (k : Nat) (a0_0 : Int) (a0_1 : Int) (a0_2 : Int) (a0_3 : Bool) (a0_4 : Int) (r : Bool) (w : World) (h : lancetref04_Right.f k a0_0 a0_1 a0_2 a0_3 a0_4 = some r) :
    Calls Try.prog 41 #[.agg #[.int .i64 a0_0, .int .u32 a0_1, .int .u32 a0_2, .bool a0_3, .int .u32 a0_4]] w fun e w' => e = .returned (.bool r) ∧ Below w.heap.size w w' := by
  have hu62 := Try.underlying62
  have HB := Aside0.mk (Below.refl w.heap.size w)
  have H : (lancetref04_Right.l0 k 1 0 a0_0 a0_1 a0_2 a0_3 a0_4) = some r := h
  clear h
  have H' := Aside0.mk H
  clear H
  go_enter Try.func41, Try.ntmps41
  go_wp2_with (first | ((with_reducible refine gate_dst (N := 1) rfl ?_); refine box_event ?hg (N := 1) ?hd (cs := #[.int .i64 a0_0, .int .u32 a0_1, .int .u32 a0_2, .bool a0_3, .int .u32 a0_4]) (t := 62) ?hr ?_; (case hd => rfl); (case hg => rfl); (case hr => first | (go_simp; done) | (go_simp; rfl)); intro gb101 hg w2 hbox hb; have n0_ := Aside0.mk (below_step (by repeat (first | (with_reducible first | exact HB.out | apply below_alloc | apply pw_below_drewN | apply below_drew1) | exact HB.out)) hb); have n1_ := Aside0.mk (hbox); have n2_ := Aside0.mk ((by rw [hg]; exact (below_size (by repeat (first | (with_reducible first | exact HB.out | apply below_alloc | apply pw_below_drewN | apply below_drew1) | exact HB.out))) : w.heap.size ≤ gb101)); have n3_ := Aside0.mk ((by rw [hg]; exact (below_size (by repeat (first | (with_reducible first | exact HB.out | apply below_alloc | apply pw_below_drewN | apply below_drew1) | exact HB.out))) : w.heap.size ≤ gb101)); clear HB; have HB := n0_; have BK101 := n1_; have GW101 := n2_; have GE101 := n3_; clear n0_ n1_ n2_ n3_; clear hb hbox hg))
  go_loopg [3, 4] k (fun kq v3 v4 w' => ∃ (x3_1 : Int) (x4_1 : Int), v3 = .int .u64 x3_1 ∧ v4 = .int .i64 x4_1 ∧ Aside0 (lancetref04_Right.l0 kq x3_1 x4_1 a0_0 a0_1 a0_2 a0_3 a0_4 = some r) ∧ Aside0 (kq ≤ k) ∧ Aside0 (w'.heap[gb101]? = some (.cells #[.int .i64 a0_0, .int .u32 a0_1, .int .u32 a0_2, .bool a0_3, .int .u32 a0_4] 62 (0, 0))) ∧ Aside0 (Below w.heap.size w w'))
  case atStart => exact ⟨(1), (0), (by first | rfl | (simp; done) | (simp [*]; done)), (by first | rfl | (simp; done) | (simp [*]; done)), H', ⟨Nat.le_refl _⟩, ⟨by (with_reducible repeat (first | refine blk_drewN ?_ _ | refine blk_drew ?_ | refine blk_alloc ?_ _)); exact BK101.out⟩, ⟨by repeat (first | (with_reducible first | exact HB.out | apply below_alloc | apply pw_below_drewN | apply below_drew1 | refine below_set ?_ GE101.out) | exact HB.out)⟩⟩
  case round =>
    clear H'
    try clear p2
    obtain ⟨x3_1, x4_1, rfl, rfl, HA, HK1, BK101, HB⟩ := hrel
    cases gk with
    | zero => exact absurd HA.out (by simp [lancetref04_Right.l0])
    | succ k1 =>
      have H := HA.out
      clear HA
      simp only [lancetref04_Right.l0] at H
      by_cases c3 : x4_1 < a0_0
      · rw [if_pos c3] at H
        have c3b0 : decide (x4_1 < a0_0) = true := decide_eq_true c3
        clear c3
        by_cases c4 : x4_1 < 40
        · rw [if_pos c4] at H
          have c4b0 : decide (x4_1 < 40) = true := decide_eq_true c4
          clear c4
          have H' := Aside0.mk H
          clear H
          have hcz5_0 : wr.cell? ⟨gb101, 0, none⟩ = some (.int .i64 a0_0) := (blk_cell BK101.out 0).trans rfl
          have hcz5_1 : wr.cell? ⟨gb101, 1, none⟩ = some (.int .u32 a0_1) := (blk_cell BK101.out 1).trans rfl
          have hcz5_2 : wr.cell? ⟨gb101, 2, none⟩ = some (.int .u32 a0_2) := (blk_cell BK101.out 2).trans rfl
          have hcz5_3 : wr.cell? ⟨gb101, 3, none⟩ = some (.bool a0_3) := (blk_cell BK101.out 3).trans rfl
          have hcz5_4 : wr.cell? ⟨gb101, 4, none⟩ = some (.int .u32 a0_4) := (blk_cell BK101.out 4).trans rfl
          have hfz5_0 := blk_frozen BK101.out 0
          have hfz5_1 := blk_frozen BK101.out 1
          have hfz5_2 := blk_frozen BK101.out 2
          have hfz5_3 := blk_frozen BK101.out 3
          have hfz5_4 := blk_frozen BK101.out 4
          go_wp2
          go_roundg k1
          case measure => have := HK1.out; omega
          case rel => exact ⟨(IntKind.u64.wrap (x3_1 * 2)), (wrap64 (x4_1 + 1)), (by first | rfl | (simp; done) | (simp [*]; done)), (by first | rfl | (simp; done) | (simp [*]; done)), H', ⟨by have := HK1.out; omega⟩, ⟨by (with_reducible repeat (first | refine blk_drewN ?_ _ | refine blk_drew ?_ | refine blk_alloc ?_ _)); exact BK101.out⟩, ⟨by repeat (first | (with_reducible first | exact HB.out | apply below_alloc | apply pw_below_drewN | apply below_drew1 | refine below_set ?_ GE101.out) | exact HB.out)⟩⟩
        · rw [if_neg c4] at H
          have c4b0 : decide (x4_1 < 40) = false := decide_eq_false c4
          clear c4
          by_cases c6 : a0_0 = 8
          · rw [if_pos c6] at H
            have c6b0 : (a0_0 == 8) = true := beq_iff_eq.mpr c6
            have c6b1 : (a0_0 != 8) = false := bne_eq_false_iff_eq.mpr c6
            clear c6
            by_cases c7 : (IntKind.u64.wrap (a0_1)) < x3_1
            · rw [if_pos c7] at H
              have c7b0 : decide ((IntKind.u64.wrap (a0_1)) < x3_1) = true := decide_eq_true c7
              clear c7
              by_cases c8 : (IntKind.u64.wrap (a0_2)) < x3_1
              · rw [if_pos c8] at H
                have c8b0 : decide ((IntKind.u64.wrap (a0_2)) < x3_1) = true := decide_eq_true c8
                clear c8
                obtain rfl := Option.some.inj H
                have hcz9_0 : wr.cell? ⟨gb101, 0, none⟩ = some (.int .i64 a0_0) := (blk_cell BK101.out 0).trans rfl
                have hcz9_1 : wr.cell? ⟨gb101, 1, none⟩ = some (.int .u32 a0_1) := (blk_cell BK101.out 1).trans rfl
                have hcz9_2 : wr.cell? ⟨gb101, 2, none⟩ = some (.int .u32 a0_2) := (blk_cell BK101.out 2).trans rfl
                have hcz9_3 : wr.cell? ⟨gb101, 3, none⟩ = some (.bool a0_3) := (blk_cell BK101.out 3).trans rfl
                have hcz9_4 : wr.cell? ⟨gb101, 4, none⟩ = some (.int .u32 a0_4) := (blk_cell BK101.out 4).trans rfl
                have hfz9_0 := blk_frozen BK101.out 0
                have hfz9_1 := blk_frozen BK101.out 1
                have hfz9_2 := blk_frozen BK101.out 2
                have hfz9_3 := blk_frozen BK101.out 3
                have hfz9_4 := blk_frozen BK101.out 4
                go_wp2
                go_ret
                exact ⟨by first | rfl | (simp [errW_none, errW_some] <;> rfl) | (simp [*, errW_none, errW_some] <;> rfl), by repeat (first | (with_reducible first | exact HB.out | apply below_alloc | apply pw_below_drewN | apply below_drew1 | refine below_set ?_ GE101.out) | exact HB.out)⟩
              · rw [if_neg c8] at H
                have c8b0 : decide ((IntKind.u64.wrap (a0_2)) < x3_1) = false := decide_eq_false c8
                clear c8
                obtain rfl := Option.some.inj H
                have hcz10_0 : wr.cell? ⟨gb101, 0, none⟩ = some (.int .i64 a0_0) := (blk_cell BK101.out 0).trans rfl
                have hcz10_1 : wr.cell? ⟨gb101, 1, none⟩ = some (.int .u32 a0_1) := (blk_cell BK101.out 1).trans rfl
                have hcz10_2 : wr.cell? ⟨gb101, 2, none⟩ = some (.int .u32 a0_2) := (blk_cell BK101.out 2).trans rfl
                have hcz10_3 : wr.cell? ⟨gb101, 3, none⟩ = some (.bool a0_3) := (blk_cell BK101.out 3).trans rfl
                have hcz10_4 : wr.cell? ⟨gb101, 4, none⟩ = some (.int .u32 a0_4) := (blk_cell BK101.out 4).trans rfl
                have hfz10_0 := blk_frozen BK101.out 0
                have hfz10_1 := blk_frozen BK101.out 1
                have hfz10_2 := blk_frozen BK101.out 2
                have hfz10_3 := blk_frozen BK101.out 3
                have hfz10_4 := blk_frozen BK101.out 4
                go_wp2
                go_ret
                exact ⟨by first | rfl | (simp [errW_none, errW_some] <;> rfl) | (simp [*, errW_none, errW_some] <;> rfl), by repeat (first | (with_reducible first | exact HB.out | apply below_alloc | apply pw_below_drewN | apply below_drew1 | refine below_set ?_ GE101.out) | exact HB.out)⟩
            · rw [if_neg c7] at H
              have c7b0 : decide ((IntKind.u64.wrap (a0_1)) < x3_1) = false := decide_eq_false c7
              clear c7
              obtain rfl := Option.some.inj H
              have hcz11_0 : wr.cell? ⟨gb101, 0, none⟩ = some (.int .i64 a0_0) := (blk_cell BK101.out 0).trans rfl
              have hcz11_1 : wr.cell? ⟨gb101, 1, none⟩ = some (.int .u32 a0_1) := (blk_cell BK101.out 1).trans rfl
              have hcz11_2 : wr.cell? ⟨gb101, 2, none⟩ = some (.int .u32 a0_2) := (blk_cell BK101.out 2).trans rfl
              have hcz11_3 : wr.cell? ⟨gb101, 3, none⟩ = some (.bool a0_3) := (blk_cell BK101.out 3).trans rfl
              have hcz11_4 : wr.cell? ⟨gb101, 4, none⟩ = some (.int .u32 a0_4) := (blk_cell BK101.out 4).trans rfl
              have hfz11_0 := blk_frozen BK101.out 0
              have hfz11_1 := blk_frozen BK101.out 1
              have hfz11_2 := blk_frozen BK101.out 2
              have hfz11_3 := blk_frozen BK101.out 3
              have hfz11_4 := blk_frozen BK101.out 4
              go_wp2
              go_ret
              exact ⟨by first | rfl | (simp [errW_none, errW_some] <;> rfl) | (simp [*, errW_none, errW_some] <;> rfl), by repeat (first | (with_reducible first | exact HB.out | apply below_alloc | apply pw_below_drewN | apply below_drew1 | refine below_set ?_ GE101.out) | exact HB.out)⟩
          · rw [if_neg c6] at H
            have c6b0 : (a0_0 == 8) = false := beq_eq_false_iff_ne.mpr c6
            have c6b1 : (a0_0 != 8) = true := bne_iff_ne.mpr c6
            by_cases c12 : a0_0 = 16
            · rw [if_pos c12] at H
              have c12b0 : (a0_0 == 16) = true := beq_iff_eq.mpr c12
              have c12b1 : (a0_0 != 16) = false := bne_eq_false_iff_eq.mpr c12
              clear c12
              by_cases c13 : (IntKind.u64.wrap (a0_1)) < x3_1
              · rw [if_pos c13] at H
                have c13b0 : decide ((IntKind.u64.wrap (a0_1)) < x3_1) = true := decide_eq_true c13
                clear c13
                by_cases c14 : (IntKind.u64.wrap (a0_2)) < x3_1
                · rw [if_pos c14] at H
                  have c14b0 : decide ((IntKind.u64.wrap (a0_2)) < x3_1) = true := decide_eq_true c14
                  clear c14
                  obtain rfl := Option.some.inj H
                  have hcz15_0 : wr.cell? ⟨gb101, 0, none⟩ = some (.int .i64 a0_0) := (blk_cell BK101.out 0).trans rfl
                  have hcz15_1 : wr.cell? ⟨gb101, 1, none⟩ = some (.int .u32 a0_1) := (blk_cell BK101.out 1).trans rfl
                  have hcz15_2 : wr.cell? ⟨gb101, 2, none⟩ = some (.int .u32 a0_2) := (blk_cell BK101.out 2).trans rfl
                  have hcz15_3 : wr.cell? ⟨gb101, 3, none⟩ = some (.bool a0_3) := (blk_cell BK101.out 3).trans rfl
                  have hcz15_4 : wr.cell? ⟨gb101, 4, none⟩ = some (.int .u32 a0_4) := (blk_cell BK101.out 4).trans rfl
                  have hfz15_0 := blk_frozen BK101.out 0
                  have hfz15_1 := blk_frozen BK101.out 1
                  have hfz15_2 := blk_frozen BK101.out 2
                  have hfz15_3 := blk_frozen BK101.out 3
                  have hfz15_4 := blk_frozen BK101.out 4
                  go_wp2
                  go_ret
                  exact ⟨by first | rfl | (simp [errW_none, errW_some] <;> rfl) | (simp [*, errW_none, errW_some] <;> rfl), by repeat (first | (with_reducible first | exact HB.out | apply below_alloc | apply pw_below_drewN | apply below_drew1 | refine below_set ?_ GE101.out) | exact HB.out)⟩
                · rw [if_neg c14] at H
                  have c14b0 : decide ((IntKind.u64.wrap (a0_2)) < x3_1) = false := decide_eq_false c14
                  clear c14
                  obtain rfl := Option.some.inj H
                  have hcz16_0 : wr.cell? ⟨gb101, 0, none⟩ = some (.int .i64 a0_0) := (blk_cell BK101.out 0).trans rfl
                  have hcz16_1 : wr.cell? ⟨gb101, 1, none⟩ = some (.int .u32 a0_1) := (blk_cell BK101.out 1).trans rfl
                  have hcz16_2 : wr.cell? ⟨gb101, 2, none⟩ = some (.int .u32 a0_2) := (blk_cell BK101.out 2).trans rfl
                  have hcz16_3 : wr.cell? ⟨gb101, 3, none⟩ = some (.bool a0_3) := (blk_cell BK101.out 3).trans rfl
                  have hcz16_4 : wr.cell? ⟨gb101, 4, none⟩ = some (.int .u32 a0_4) := (blk_cell BK101.out 4).trans rfl
                  have hfz16_0 := blk_frozen BK101.out 0
                  have hfz16_1 := blk_frozen BK101.out 1
                  have hfz16_2 := blk_frozen BK101.out 2
                  have hfz16_3 := blk_frozen BK101.out 3
                  have hfz16_4 := blk_frozen BK101.out 4
                  go_wp2
                  go_ret
                  exact ⟨by first | rfl | (simp [errW_none, errW_some] <;> rfl) | (simp [*, errW_none, errW_some] <;> rfl), by repeat (first | (with_reducible first | exact HB.out | apply below_alloc | apply pw_below_drewN | apply below_drew1 | refine below_set ?_ GE101.out) | exact HB.out)⟩
              · rw [if_neg c13] at H
                have c13b0 : decide ((IntKind.u64.wrap (a0_1)) < x3_1) = false := decide_eq_false c13
                clear c13
                obtain rfl := Option.some.inj H
                have hcz17_0 : wr.cell? ⟨gb101, 0, none⟩ = some (.int .i64 a0_0) := (blk_cell BK101.out 0).trans rfl
                have hcz17_1 : wr.cell? ⟨gb101, 1, none⟩ = some (.int .u32 a0_1) := (blk_cell BK101.out 1).trans rfl
                have hcz17_2 : wr.cell? ⟨gb101, 2, none⟩ = some (.int .u32 a0_2) := (blk_cell BK101.out 2).trans rfl
                have hcz17_3 : wr.cell? ⟨gb101, 3, none⟩ = some (.bool a0_3) := (blk_cell BK101.out 3).trans rfl
                have hcz17_4 : wr.cell? ⟨gb101, 4, none⟩ = some (.int .u32 a0_4) := (blk_cell BK101.out 4).trans rfl
                have hfz17_0 := blk_frozen BK101.out 0
                have hfz17_1 := blk_frozen BK101.out 1
                have hfz17_2 := blk_frozen BK101.out 2
                have hfz17_3 := blk_frozen BK101.out 3
                have hfz17_4 := blk_frozen BK101.out 4
                go_wp2
                go_ret
                exact ⟨by first | rfl | (simp [errW_none, errW_some] <;> rfl) | (simp [*, errW_none, errW_some] <;> rfl), by repeat (first | (with_reducible first | exact HB.out | apply below_alloc | apply pw_below_drewN | apply below_drew1 | refine below_set ?_ GE101.out) | exact HB.out)⟩
            · rw [if_neg c12] at H
              have c12b0 : (a0_0 == 16) = false := beq_eq_false_iff_ne.mpr c12
              have c12b1 : (a0_0 != 16) = true := bne_iff_ne.mpr c12
              by_cases c18 : a0_0 = 32
              · rw [if_pos c18] at H
                have c18b0 : (a0_0 == 32) = true := beq_iff_eq.mpr c18
                have c18b1 : (a0_0 != 32) = false := bne_eq_false_iff_eq.mpr c18
                clear c18
                by_cases c19 : (IntKind.u64.wrap (a0_1)) < x3_1
                · rw [if_pos c19] at H
                  have c19b0 : decide ((IntKind.u64.wrap (a0_1)) < x3_1) = true := decide_eq_true c19
                  clear c19
                  by_cases c20 : (IntKind.u64.wrap (a0_2)) < x3_1
                  · rw [if_pos c20] at H
                    have c20b0 : decide ((IntKind.u64.wrap (a0_2)) < x3_1) = true := decide_eq_true c20
                    clear c20
                    obtain rfl := Option.some.inj H
                    have hcz21_0 : wr.cell? ⟨gb101, 0, none⟩ = some (.int .i64 a0_0) := (blk_cell BK101.out 0).trans rfl
                    have hcz21_1 : wr.cell? ⟨gb101, 1, none⟩ = some (.int .u32 a0_1) := (blk_cell BK101.out 1).trans rfl
                    have hcz21_2 : wr.cell? ⟨gb101, 2, none⟩ = some (.int .u32 a0_2) := (blk_cell BK101.out 2).trans rfl
                    have hcz21_3 : wr.cell? ⟨gb101, 3, none⟩ = some (.bool a0_3) := (blk_cell BK101.out 3).trans rfl
                    have hcz21_4 : wr.cell? ⟨gb101, 4, none⟩ = some (.int .u32 a0_4) := (blk_cell BK101.out 4).trans rfl
                    have hfz21_0 := blk_frozen BK101.out 0
                    have hfz21_1 := blk_frozen BK101.out 1
                    have hfz21_2 := blk_frozen BK101.out 2
                    have hfz21_3 := blk_frozen BK101.out 3
                    have hfz21_4 := blk_frozen BK101.out 4
                    go_wp2
                    go_ret
                    exact ⟨by first | rfl | (simp [errW_none, errW_some] <;> rfl) | (simp [*, errW_none, errW_some] <;> rfl), by repeat (first | (with_reducible first | exact HB.out | apply below_alloc | apply pw_below_drewN | apply below_drew1 | refine below_set ?_ GE101.out) | exact HB.out)⟩
                  · rw [if_neg c20] at H
                    have c20b0 : decide ((IntKind.u64.wrap (a0_2)) < x3_1) = false := decide_eq_false c20
                    clear c20
                    obtain rfl := Option.some.inj H
                    have hcz22_0 : wr.cell? ⟨gb101, 0, none⟩ = some (.int .i64 a0_0) := (blk_cell BK101.out 0).trans rfl
                    have hcz22_1 : wr.cell? ⟨gb101, 1, none⟩ = some (.int .u32 a0_1) := (blk_cell BK101.out 1).trans rfl
                    have hcz22_2 : wr.cell? ⟨gb101, 2, none⟩ = some (.int .u32 a0_2) := (blk_cell BK101.out 2).trans rfl
                    have hcz22_3 : wr.cell? ⟨gb101, 3, none⟩ = some (.bool a0_3) := (blk_cell BK101.out 3).trans rfl
                    have hcz22_4 : wr.cell? ⟨gb101, 4, none⟩ = some (.int .u32 a0_4) := (blk_cell BK101.out 4).trans rfl
                    have hfz22_0 := blk_frozen BK101.out 0
                    have hfz22_1 := blk_frozen BK101.out 1
                    have hfz22_2 := blk_frozen BK101.out 2
                    have hfz22_3 := blk_frozen BK101.out 3
                    have hfz22_4 := blk_frozen BK101.out 4
                    go_wp2
                    go_ret
                    exact ⟨by first | rfl | (simp [errW_none, errW_some] <;> rfl) | (simp [*, errW_none, errW_some] <;> rfl), by repeat (first | (with_reducible first | exact HB.out | apply below_alloc | apply pw_below_drewN | apply below_drew1 | refine below_set ?_ GE101.out) | exact HB.out)⟩
                · rw [if_neg c19] at H
                  have c19b0 : decide ((IntKind.u64.wrap (a0_1)) < x3_1) = false := decide_eq_false c19
                  clear c19
                  obtain rfl := Option.some.inj H
                  have hcz23_0 : wr.cell? ⟨gb101, 0, none⟩ = some (.int .i64 a0_0) := (blk_cell BK101.out 0).trans rfl
                  have hcz23_1 : wr.cell? ⟨gb101, 1, none⟩ = some (.int .u32 a0_1) := (blk_cell BK101.out 1).trans rfl
                  have hcz23_2 : wr.cell? ⟨gb101, 2, none⟩ = some (.int .u32 a0_2) := (blk_cell BK101.out 2).trans rfl
                  have hcz23_3 : wr.cell? ⟨gb101, 3, none⟩ = some (.bool a0_3) := (blk_cell BK101.out 3).trans rfl
                  have hcz23_4 : wr.cell? ⟨gb101, 4, none⟩ = some (.int .u32 a0_4) := (blk_cell BK101.out 4).trans rfl
                  have hfz23_0 := blk_frozen BK101.out 0
                  have hfz23_1 := blk_frozen BK101.out 1
                  have hfz23_2 := blk_frozen BK101.out 2
                  have hfz23_3 := blk_frozen BK101.out 3
                  have hfz23_4 := blk_frozen BK101.out 4
                  go_wp2
                  go_ret
                  exact ⟨by first | rfl | (simp [errW_none, errW_some] <;> rfl) | (simp [*, errW_none, errW_some] <;> rfl), by repeat (first | (with_reducible first | exact HB.out | apply below_alloc | apply pw_below_drewN | apply below_drew1 | refine below_set ?_ GE101.out) | exact HB.out)⟩
              · rw [if_neg c18] at H
                have c18b0 : (a0_0 == 32) = false := beq_eq_false_iff_ne.mpr c18
                have c18b1 : (a0_0 != 32) = true := bne_iff_ne.mpr c18
                obtain rfl := Option.some.inj H
                have hcz24_0 : wr.cell? ⟨gb101, 0, none⟩ = some (.int .i64 a0_0) := (blk_cell BK101.out 0).trans rfl
                have hcz24_1 : wr.cell? ⟨gb101, 1, none⟩ = some (.int .u32 a0_1) := (blk_cell BK101.out 1).trans rfl
                have hcz24_2 : wr.cell? ⟨gb101, 2, none⟩ = some (.int .u32 a0_2) := (blk_cell BK101.out 2).trans rfl
                have hcz24_3 : wr.cell? ⟨gb101, 3, none⟩ = some (.bool a0_3) := (blk_cell BK101.out 3).trans rfl
                have hcz24_4 : wr.cell? ⟨gb101, 4, none⟩ = some (.int .u32 a0_4) := (blk_cell BK101.out 4).trans rfl
                have hfz24_0 := blk_frozen BK101.out 0
                have hfz24_1 := blk_frozen BK101.out 1
                have hfz24_2 := blk_frozen BK101.out 2
                have hfz24_3 := blk_frozen BK101.out 3
                have hfz24_4 := blk_frozen BK101.out 4
                go_wp2
                go_ret
                exact ⟨by first | rfl | (simp [errW_none, errW_some] <;> rfl) | (simp [*, errW_none, errW_some] <;> rfl), by repeat (first | (with_reducible first | exact HB.out | apply below_alloc | apply pw_below_drewN | apply below_drew1 | refine below_set ?_ GE101.out) | exact HB.out)⟩
      · rw [if_neg c3] at H
        have c3b0 : decide (x4_1 < a0_0) = false := decide_eq_false c3
        clear c3
        by_cases c25 : a0_0 = 8
        · rw [if_pos c25] at H
          have c25b0 : (a0_0 == 8) = true := beq_iff_eq.mpr c25
          have c25b1 : (a0_0 != 8) = false := bne_eq_false_iff_eq.mpr c25
          clear c25
          by_cases c26 : (IntKind.u64.wrap (a0_1)) < x3_1
          · rw [if_pos c26] at H
            have c26b0 : decide ((IntKind.u64.wrap (a0_1)) < x3_1) = true := decide_eq_true c26
            clear c26
            by_cases c27 : (IntKind.u64.wrap (a0_2)) < x3_1
            · rw [if_pos c27] at H
              have c27b0 : decide ((IntKind.u64.wrap (a0_2)) < x3_1) = true := decide_eq_true c27
              clear c27
              obtain rfl := Option.some.inj H
              have hcz28_0 : wr.cell? ⟨gb101, 0, none⟩ = some (.int .i64 a0_0) := (blk_cell BK101.out 0).trans rfl
              have hcz28_1 : wr.cell? ⟨gb101, 1, none⟩ = some (.int .u32 a0_1) := (blk_cell BK101.out 1).trans rfl
              have hcz28_2 : wr.cell? ⟨gb101, 2, none⟩ = some (.int .u32 a0_2) := (blk_cell BK101.out 2).trans rfl
              have hcz28_3 : wr.cell? ⟨gb101, 3, none⟩ = some (.bool a0_3) := (blk_cell BK101.out 3).trans rfl
              have hcz28_4 : wr.cell? ⟨gb101, 4, none⟩ = some (.int .u32 a0_4) := (blk_cell BK101.out 4).trans rfl
              have hfz28_0 := blk_frozen BK101.out 0
              have hfz28_1 := blk_frozen BK101.out 1
              have hfz28_2 := blk_frozen BK101.out 2
              have hfz28_3 := blk_frozen BK101.out 3
              have hfz28_4 := blk_frozen BK101.out 4
              go_wp2
              go_ret
              exact ⟨by first | rfl | (simp [errW_none, errW_some] <;> rfl) | (simp [*, errW_none, errW_some] <;> rfl), by repeat (first | (with_reducible first | exact HB.out | apply below_alloc | apply pw_below_drewN | apply below_drew1 | refine below_set ?_ GE101.out) | exact HB.out)⟩
            · rw [if_neg c27] at H
              have c27b0 : decide ((IntKind.u64.wrap (a0_2)) < x3_1) = false := decide_eq_false c27
              clear c27
              obtain rfl := Option.some.inj H
              have hcz29_0 : wr.cell? ⟨gb101, 0, none⟩ = some (.int .i64 a0_0) := (blk_cell BK101.out 0).trans rfl
              have hcz29_1 : wr.cell? ⟨gb101, 1, none⟩ = some (.int .u32 a0_1) := (blk_cell BK101.out 1).trans rfl
              have hcz29_2 : wr.cell? ⟨gb101, 2, none⟩ = some (.int .u32 a0_2) := (blk_cell BK101.out 2).trans rfl
              have hcz29_3 : wr.cell? ⟨gb101, 3, none⟩ = some (.bool a0_3) := (blk_cell BK101.out 3).trans rfl
              have hcz29_4 : wr.cell? ⟨gb101, 4, none⟩ = some (.int .u32 a0_4) := (blk_cell BK101.out 4).trans rfl
              have hfz29_0 := blk_frozen BK101.out 0
              have hfz29_1 := blk_frozen BK101.out 1
              have hfz29_2 := blk_frozen BK101.out 2
              have hfz29_3 := blk_frozen BK101.out 3
              have hfz29_4 := blk_frozen BK101.out 4
              go_wp2
              go_ret
              exact ⟨by first | rfl | (simp [errW_none, errW_some] <;> rfl) | (simp [*, errW_none, errW_some] <;> rfl), by repeat (first | (with_reducible first | exact HB.out | apply below_alloc | apply pw_below_drewN | apply below_drew1 | refine below_set ?_ GE101.out) | exact HB.out)⟩
          · rw [if_neg c26] at H
            have c26b0 : decide ((IntKind.u64.wrap (a0_1)) < x3_1) = false := decide_eq_false c26
            clear c26
            obtain rfl := Option.some.inj H
            have hcz30_0 : wr.cell? ⟨gb101, 0, none⟩ = some (.int .i64 a0_0) := (blk_cell BK101.out 0).trans rfl
            have hcz30_1 : wr.cell? ⟨gb101, 1, none⟩ = some (.int .u32 a0_1) := (blk_cell BK101.out 1).trans rfl
            have hcz30_2 : wr.cell? ⟨gb101, 2, none⟩ = some (.int .u32 a0_2) := (blk_cell BK101.out 2).trans rfl
            have hcz30_3 : wr.cell? ⟨gb101, 3, none⟩ = some (.bool a0_3) := (blk_cell BK101.out 3).trans rfl
            have hcz30_4 : wr.cell? ⟨gb101, 4, none⟩ = some (.int .u32 a0_4) := (blk_cell BK101.out 4).trans rfl
            have hfz30_0 := blk_frozen BK101.out 0
            have hfz30_1 := blk_frozen BK101.out 1
            have hfz30_2 := blk_frozen BK101.out 2
            have hfz30_3 := blk_frozen BK101.out 3
            have hfz30_4 := blk_frozen BK101.out 4
            go_wp2
            go_ret
            exact ⟨by first | rfl | (simp [errW_none, errW_some] <;> rfl) | (simp [*, errW_none, errW_some] <;> rfl), by repeat (first | (with_reducible first | exact HB.out | apply below_alloc | apply pw_below_drewN | apply below_drew1 | refine below_set ?_ GE101.out) | exact HB.out)⟩
        · rw [if_neg c25] at H
          have c25b0 : (a0_0 == 8) = false := beq_eq_false_iff_ne.mpr c25
          have c25b1 : (a0_0 != 8) = true := bne_iff_ne.mpr c25
          by_cases c31 : a0_0 = 16
          · rw [if_pos c31] at H
            have c31b0 : (a0_0 == 16) = true := beq_iff_eq.mpr c31
            have c31b1 : (a0_0 != 16) = false := bne_eq_false_iff_eq.mpr c31
            clear c31
            by_cases c32 : (IntKind.u64.wrap (a0_1)) < x3_1
            · rw [if_pos c32] at H
              have c32b0 : decide ((IntKind.u64.wrap (a0_1)) < x3_1) = true := decide_eq_true c32
              clear c32
              by_cases c33 : (IntKind.u64.wrap (a0_2)) < x3_1
              · rw [if_pos c33] at H
                have c33b0 : decide ((IntKind.u64.wrap (a0_2)) < x3_1) = true := decide_eq_true c33
                clear c33
                obtain rfl := Option.some.inj H
                have hcz34_0 : wr.cell? ⟨gb101, 0, none⟩ = some (.int .i64 a0_0) := (blk_cell BK101.out 0).trans rfl
                have hcz34_1 : wr.cell? ⟨gb101, 1, none⟩ = some (.int .u32 a0_1) := (blk_cell BK101.out 1).trans rfl
                have hcz34_2 : wr.cell? ⟨gb101, 2, none⟩ = some (.int .u32 a0_2) := (blk_cell BK101.out 2).trans rfl
                have hcz34_3 : wr.cell? ⟨gb101, 3, none⟩ = some (.bool a0_3) := (blk_cell BK101.out 3).trans rfl
                have hcz34_4 : wr.cell? ⟨gb101, 4, none⟩ = some (.int .u32 a0_4) := (blk_cell BK101.out 4).trans rfl
                have hfz34_0 := blk_frozen BK101.out 0
                have hfz34_1 := blk_frozen BK101.out 1
                have hfz34_2 := blk_frozen BK101.out 2
                have hfz34_3 := blk_frozen BK101.out 3
                have hfz34_4 := blk_frozen BK101.out 4
                go_wp2
                go_ret
                exact ⟨by first | rfl | (simp [errW_none, errW_some] <;> rfl) | (simp [*, errW_none, errW_some] <;> rfl), by repeat (first | (with_reducible first | exact HB.out | apply below_alloc | apply pw_below_drewN | apply below_drew1 | refine below_set ?_ GE101.out) | exact HB.out)⟩
              · rw [if_neg c33] at H
                have c33b0 : decide ((IntKind.u64.wrap (a0_2)) < x3_1) = false := decide_eq_false c33
                clear c33
                obtain rfl := Option.some.inj H
                have hcz35_0 : wr.cell? ⟨gb101, 0, none⟩ = some (.int .i64 a0_0) := (blk_cell BK101.out 0).trans rfl
                have hcz35_1 : wr.cell? ⟨gb101, 1, none⟩ = some (.int .u32 a0_1) := (blk_cell BK101.out 1).trans rfl
                have hcz35_2 : wr.cell? ⟨gb101, 2, none⟩ = some (.int .u32 a0_2) := (blk_cell BK101.out 2).trans rfl
                have hcz35_3 : wr.cell? ⟨gb101, 3, none⟩ = some (.bool a0_3) := (blk_cell BK101.out 3).trans rfl
                have hcz35_4 : wr.cell? ⟨gb101, 4, none⟩ = some (.int .u32 a0_4) := (blk_cell BK101.out 4).trans rfl
                have hfz35_0 := blk_frozen BK101.out 0
                have hfz35_1 := blk_frozen BK101.out 1
                have hfz35_2 := blk_frozen BK101.out 2
                have hfz35_3 := blk_frozen BK101.out 3
                have hfz35_4 := blk_frozen BK101.out 4
                go_wp2
                go_ret
                exact ⟨by first | rfl | (simp [errW_none, errW_some] <;> rfl) | (simp [*, errW_none, errW_some] <;> rfl), by repeat (first | (with_reducible first | exact HB.out | apply below_alloc | apply pw_below_drewN | apply below_drew1 | refine below_set ?_ GE101.out) | exact HB.out)⟩
            · rw [if_neg c32] at H
              have c32b0 : decide ((IntKind.u64.wrap (a0_1)) < x3_1) = false := decide_eq_false c32
              clear c32
              obtain rfl := Option.some.inj H
              have hcz36_0 : wr.cell? ⟨gb101, 0, none⟩ = some (.int .i64 a0_0) := (blk_cell BK101.out 0).trans rfl
              have hcz36_1 : wr.cell? ⟨gb101, 1, none⟩ = some (.int .u32 a0_1) := (blk_cell BK101.out 1).trans rfl
              have hcz36_2 : wr.cell? ⟨gb101, 2, none⟩ = some (.int .u32 a0_2) := (blk_cell BK101.out 2).trans rfl
              have hcz36_3 : wr.cell? ⟨gb101, 3, none⟩ = some (.bool a0_3) := (blk_cell BK101.out 3).trans rfl
              have hcz36_4 : wr.cell? ⟨gb101, 4, none⟩ = some (.int .u32 a0_4) := (blk_cell BK101.out 4).trans rfl
              have hfz36_0 := blk_frozen BK101.out 0
              have hfz36_1 := blk_frozen BK101.out 1
              have hfz36_2 := blk_frozen BK101.out 2
              have hfz36_3 := blk_frozen BK101.out 3
              have hfz36_4 := blk_frozen BK101.out 4
              go_wp2
              go_ret
              exact ⟨by first | rfl | (simp [errW_none, errW_some] <;> rfl) | (simp [*, errW_none, errW_some] <;> rfl), by repeat (first | (with_reducible first | exact HB.out | apply below_alloc | apply pw_below_drewN | apply below_drew1 | refine below_set ?_ GE101.out) | exact HB.out)⟩
          · rw [if_neg c31] at H
            have c31b0 : (a0_0 == 16) = false := beq_eq_false_iff_ne.mpr c31
            have c31b1 : (a0_0 != 16) = true := bne_iff_ne.mpr c31
            by_cases c37 : a0_0 = 32
            · rw [if_pos c37] at H
              have c37b0 : (a0_0 == 32) = true := beq_iff_eq.mpr c37
              have c37b1 : (a0_0 != 32) = false := bne_eq_false_iff_eq.mpr c37
              clear c37
              by_cases c38 : (IntKind.u64.wrap (a0_1)) < x3_1
              · rw [if_pos c38] at H
                have c38b0 : decide ((IntKind.u64.wrap (a0_1)) < x3_1) = true := decide_eq_true c38
                clear c38
                by_cases c39 : (IntKind.u64.wrap (a0_2)) < x3_1
                · rw [if_pos c39] at H
                  have c39b0 : decide ((IntKind.u64.wrap (a0_2)) < x3_1) = true := decide_eq_true c39
                  clear c39
                  obtain rfl := Option.some.inj H
                  have hcz40_0 : wr.cell? ⟨gb101, 0, none⟩ = some (.int .i64 a0_0) := (blk_cell BK101.out 0).trans rfl
                  have hcz40_1 : wr.cell? ⟨gb101, 1, none⟩ = some (.int .u32 a0_1) := (blk_cell BK101.out 1).trans rfl
                  have hcz40_2 : wr.cell? ⟨gb101, 2, none⟩ = some (.int .u32 a0_2) := (blk_cell BK101.out 2).trans rfl
                  have hcz40_3 : wr.cell? ⟨gb101, 3, none⟩ = some (.bool a0_3) := (blk_cell BK101.out 3).trans rfl
                  have hcz40_4 : wr.cell? ⟨gb101, 4, none⟩ = some (.int .u32 a0_4) := (blk_cell BK101.out 4).trans rfl
                  have hfz40_0 := blk_frozen BK101.out 0
                  have hfz40_1 := blk_frozen BK101.out 1
                  have hfz40_2 := blk_frozen BK101.out 2
                  have hfz40_3 := blk_frozen BK101.out 3
                  have hfz40_4 := blk_frozen BK101.out 4
                  go_wp2
                  go_ret
                  exact ⟨by first | rfl | (simp [errW_none, errW_some] <;> rfl) | (simp [*, errW_none, errW_some] <;> rfl), by repeat (first | (with_reducible first | exact HB.out | apply below_alloc | apply pw_below_drewN | apply below_drew1 | refine below_set ?_ GE101.out) | exact HB.out)⟩
                · rw [if_neg c39] at H
                  have c39b0 : decide ((IntKind.u64.wrap (a0_2)) < x3_1) = false := decide_eq_false c39
                  clear c39
                  obtain rfl := Option.some.inj H
                  have hcz41_0 : wr.cell? ⟨gb101, 0, none⟩ = some (.int .i64 a0_0) := (blk_cell BK101.out 0).trans rfl
                  have hcz41_1 : wr.cell? ⟨gb101, 1, none⟩ = some (.int .u32 a0_1) := (blk_cell BK101.out 1).trans rfl
                  have hcz41_2 : wr.cell? ⟨gb101, 2, none⟩ = some (.int .u32 a0_2) := (blk_cell BK101.out 2).trans rfl
                  have hcz41_3 : wr.cell? ⟨gb101, 3, none⟩ = some (.bool a0_3) := (blk_cell BK101.out 3).trans rfl
                  have hcz41_4 : wr.cell? ⟨gb101, 4, none⟩ = some (.int .u32 a0_4) := (blk_cell BK101.out 4).trans rfl
                  have hfz41_0 := blk_frozen BK101.out 0
                  have hfz41_1 := blk_frozen BK101.out 1
                  have hfz41_2 := blk_frozen BK101.out 2
                  have hfz41_3 := blk_frozen BK101.out 3
                  have hfz41_4 := blk_frozen BK101.out 4
                  go_wp2
                  go_ret
                  exact ⟨by first | rfl | (simp [errW_none, errW_some] <;> rfl) | (simp [*, errW_none, errW_some] <;> rfl), by repeat (first | (with_reducible first | exact HB.out | apply below_alloc | apply pw_below_drewN | apply below_drew1 | refine below_set ?_ GE101.out) | exact HB.out)⟩
              · rw [if_neg c38] at H
                have c38b0 : decide ((IntKind.u64.wrap (a0_1)) < x3_1) = false := decide_eq_false c38
                clear c38
                obtain rfl := Option.some.inj H
                have hcz42_0 : wr.cell? ⟨gb101, 0, none⟩ = some (.int .i64 a0_0) := (blk_cell BK101.out 0).trans rfl
                have hcz42_1 : wr.cell? ⟨gb101, 1, none⟩ = some (.int .u32 a0_1) := (blk_cell BK101.out 1).trans rfl
                have hcz42_2 : wr.cell? ⟨gb101, 2, none⟩ = some (.int .u32 a0_2) := (blk_cell BK101.out 2).trans rfl
                have hcz42_3 : wr.cell? ⟨gb101, 3, none⟩ = some (.bool a0_3) := (blk_cell BK101.out 3).trans rfl
                have hcz42_4 : wr.cell? ⟨gb101, 4, none⟩ = some (.int .u32 a0_4) := (blk_cell BK101.out 4).trans rfl
                have hfz42_0 := blk_frozen BK101.out 0
                have hfz42_1 := blk_frozen BK101.out 1
                have hfz42_2 := blk_frozen BK101.out 2
                have hfz42_3 := blk_frozen BK101.out 3
                have hfz42_4 := blk_frozen BK101.out 4
                go_wp2
                go_ret
                exact ⟨by first | rfl | (simp [errW_none, errW_some] <;> rfl) | (simp [*, errW_none, errW_some] <;> rfl), by repeat (first | (with_reducible first | exact HB.out | apply below_alloc | apply pw_below_drewN | apply below_drew1 | refine below_set ?_ GE101.out) | exact HB.out)⟩
            · rw [if_neg c37] at H
              have c37b0 : (a0_0 == 32) = false := beq_eq_false_iff_ne.mpr c37
              have c37b1 : (a0_0 != 32) = true := bne_iff_ne.mpr c37
              obtain rfl := Option.some.inj H
              have hcz43_0 : wr.cell? ⟨gb101, 0, none⟩ = some (.int .i64 a0_0) := (blk_cell BK101.out 0).trans rfl
              have hcz43_1 : wr.cell? ⟨gb101, 1, none⟩ = some (.int .u32 a0_1) := (blk_cell BK101.out 1).trans rfl
              have hcz43_2 : wr.cell? ⟨gb101, 2, none⟩ = some (.int .u32 a0_2) := (blk_cell BK101.out 2).trans rfl
              have hcz43_3 : wr.cell? ⟨gb101, 3, none⟩ = some (.bool a0_3) := (blk_cell BK101.out 3).trans rfl
              have hcz43_4 : wr.cell? ⟨gb101, 4, none⟩ = some (.int .u32 a0_4) := (blk_cell BK101.out 4).trans rfl
              have hfz43_0 := blk_frozen BK101.out 0
              have hfz43_1 := blk_frozen BK101.out 1
              have hfz43_2 := blk_frozen BK101.out 2
              have hfz43_3 := blk_frozen BK101.out 3
              have hfz43_4 := blk_frozen BK101.out 4
              go_wp2
              go_ret
              exact ⟨by first | rfl | (simp [errW_none, errW_some] <;> rfl) | (simp [*, errW_none, errW_some] <;> rfl), by repeat (first | (with_reducible first | exact HB.out | apply below_alloc | apply pw_below_drewN | apply below_drew1 | refine below_set ?_ GE101.out) | exact HB.out)⟩

end Go.Proofs.Ytcmofedfbjpjlaa.PRight
