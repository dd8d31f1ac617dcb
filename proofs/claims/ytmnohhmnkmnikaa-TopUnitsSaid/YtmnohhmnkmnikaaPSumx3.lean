-- PRINTED BY print.sh 35421559b90ae4d0a3588c463048766b98c2df88dd9212a6774a882060cdf62d: not written by this session
import Derived.Test.YtmnohhmnkmnikaaPSumx0
import Derived.Test.YtmnohhmnkmnikaaPSumx1
import Derived.Test.YtmnohhmnkmnikaaPSumx2
namespace Go.Proofs.Ytmnohhmnkmnikaa.PSum
open Go.RowKit Go.Proofs.YtmnohhmnkmnikaaW.PrintWords Go.Proofs.YtmnohhmnkmnikaaW.PrintLast Go.Proofs.YtmnohhmnkmnikaaW.PrintMore
attribute [local go_sem] max2_int min2_int max_two min_two max_three min_three max_four min_four   -- for this text's walks alone
set_option linter.unusedVariables false
set_option linter.unusedSimpArgs false

/-! ### crc_Sum: function 89 -/
mutual
def crc_Sum.j0 : Nat → List Int → Bool → Int → Int → Int → Bool → Int → Option (Int × Int)
  | 0, _, _, _, _, _, _, _ => none
  | k + 1, x1, x17, x108000, x108001, x108002, x108003, x108004 => if x17 = true then (some (0, 1)) else ((crc_below.f x108001 x108000).bind fun t108 => (if t108 = true then ((crc_below.f x108002 x108000).bind fun t109 => (if t109 = true then ((crc_below.f x108004 x108000).bind fun t110 => (crc_Sum.j1 k x1 (!t110) x108000 x108001 x108002 x108003 x108004)) else (crc_Sum.j1 k x1 true x108000 x108001 x108002 x108003 x108004))) else (crc_Sum.j1 k x1 true x108000 x108001 x108002 x108003 x108004)))
def crc_Sum.j1 : Nat → List Int → Bool → Int → Int → Int → Bool → Int → Option (Int × Int)
  | 0, _, _, _, _, _, _, _ => none
  | k + 1, x1, x31, x108000, x108001, x108002, x108003, x108004 => if x31 = true then (some (0, 1)) else (if x108000 = 8 then ((crc_divide_uint8.f k x108000 ((x108001) % 256) ((x108002) % 256) x108003 x1).bind fun t111 => (if x108003 = true then ((crc_Turn.f k ((t111) % 4294967296) x108000).bind fun t112 => (some (Go.bits .xor .u32 t112 x108004, 0))) else (some (Go.bits .xor .u32 ((t111) % 4294967296) x108004, 0)))) else (if x108000 = 16 then ((crc_divide_uint16.f k x108000 (IntKind.u16.wrap (x108001)) (IntKind.u16.wrap (x108002)) x108003 x1).bind fun t113 => (if x108003 = true then ((crc_Turn.f k ((t113) % 4294967296) x108000).bind fun t114 => (some (Go.bits .xor .u32 t114 x108004, 0))) else (some (Go.bits .xor .u32 ((t113) % 4294967296) x108004, 0)))) else ((crc_divide_uint32.f k x108000 x108001 x108002 x108003 x1).bind fun t115 => (if x108003 = true then ((crc_Turn.f k t115 x108000).bind fun t116 => (some (Go.bits .xor .u32 t116 x108004, 0))) else (some (Go.bits .xor .u32 t115 x108004, 0))))))
end
def crc_Sum.f (k : Nat) (a0_0 : Int) (a0_1 : Int) (a0_2 : Int) (a0_3 : Bool) (a0_4 : Int) (l1 : List Int) : Option (Int × Int) := if a0_0 = 8 then (crc_Sum.j0 k l1 false a0_0 a0_1 a0_2 a0_3 a0_4) else (if a0_0 = 16 then (crc_Sum.j0 k l1 false a0_0 a0_1 a0_2 a0_3 a0_4) else (crc_Sum.j0 k l1 (a0_0 != 32) a0_0 a0_1 a0_2 a0_3 a0_4))
theorem crc_Sum.mono_l : ∀ k, (∀ y0 y1 y2 y3 y4 y5 y6, LeO (crc_Sum.j0 k y0 y1 y2 y3 y4 y5 y6) (crc_Sum.j0 (k + 1) y0 y1 y2 y3 y4 y5 y6)) ∧ (∀ y0 y1 y2 y3 y4 y5 y6, LeO (crc_Sum.j1 k y0 y1 y2 y3 y4 y5 y6) (crc_Sum.j1 (k + 1) y0 y1 y2 y3 y4 y5 y6))
  | 0 => ⟨fun _ _ _ _ _ _ _ r h => by simp [crc_Sum.j0] at h, fun _ _ _ _ _ _ _ r h => by simp [crc_Sum.j1] at h⟩
  | k + 1 => by
    obtain ⟨ih0, ih1⟩ := crc_Sum.mono_l k
    refine ⟨?_, ?_⟩
    · intro y0 y1 y2 y3 y4 y5 y6
      unfold crc_Sum.j0
      repeat' first
      | (with_reducible exact ih0 _ _ _ _ _ _ _)
      | (with_reducible exact ih1 _ _ _ _ _ _ _)
      | (with_reducible exact crc_Turn.mono _ _ _)
      | (with_reducible exact crc_divide_uint16.mono _ _ _ _ _ _)
      | (with_reducible exact crc_divide_uint32.mono _ _ _ _ _ _)
      | (with_reducible exact crc_divide_uint8.mono _ _ _ _ _ _)
      | (with_reducible exact LeO.refl _)
      | (with_reducible exact LeO.none _)
      | (with_reducible refine LeO.ite ?_ ?_)
      | (with_reducible refine LeO.bind ?_ (fun _ => ?_))
      | exact ih0 _ _ _ _ _ _ _
      | exact ih1 _ _ _ _ _ _ _
      | exact crc_Turn.mono _ _ _
      | exact crc_divide_uint16.mono _ _ _ _ _ _
      | exact crc_divide_uint32.mono _ _ _ _ _ _
      | exact crc_divide_uint8.mono _ _ _ _ _ _
      | exact LeO.none _
      | refine LeO.ite ?_ ?_
      | refine LeO.bind ?_ (fun _ => ?_)
    · intro y0 y1 y2 y3 y4 y5 y6
      unfold crc_Sum.j1
      repeat' first
      | (with_reducible exact ih0 _ _ _ _ _ _ _)
      | (with_reducible exact ih1 _ _ _ _ _ _ _)
      | (with_reducible exact crc_Turn.mono _ _ _)
      | (with_reducible exact crc_divide_uint16.mono _ _ _ _ _ _)
      | (with_reducible exact crc_divide_uint32.mono _ _ _ _ _ _)
      | (with_reducible exact crc_divide_uint8.mono _ _ _ _ _ _)
      | (with_reducible exact LeO.refl _)
      | (with_reducible exact LeO.none _)
      | (with_reducible refine LeO.ite ?_ ?_)
      | (with_reducible refine LeO.bind ?_ (fun _ => ?_))
      | exact ih0 _ _ _ _ _ _ _
      | exact ih1 _ _ _ _ _ _ _
      | exact crc_Turn.mono _ _ _
      | exact crc_divide_uint16.mono _ _ _ _ _ _
      | exact crc_divide_uint32.mono _ _ _ _ _ _
      | exact crc_divide_uint8.mono _ _ _ _ _ _
      | exact LeO.none _
      | refine LeO.ite ?_ ?_
      | refine LeO.bind ?_ (fun _ => ?_)
theorem crc_Sum.mono : ∀ a0 a1 a2 a3 a4 a5 k, LeO (crc_Sum.f k a0 a1 a2 a3 a4 a5) (crc_Sum.f (k + 1) a0 a1 a2 a3 a4 a5) := by
  intro a0 a1 a2 a3 a4 a5 k
  obtain ⟨ih0, ih1⟩ := crc_Sum.mono_l k
  unfold crc_Sum.f
  repeat' first
      | (with_reducible exact ih0 _ _ _ _ _ _ _)
      | (with_reducible exact ih1 _ _ _ _ _ _ _)
      | (with_reducible exact crc_Turn.mono _ _ _)
      | (with_reducible exact crc_divide_uint16.mono _ _ _ _ _ _)
      | (with_reducible exact crc_divide_uint32.mono _ _ _ _ _ _)
      | (with_reducible exact crc_divide_uint8.mono _ _ _ _ _ _)
      | (with_reducible exact LeO.refl _)
      | (with_reducible exact LeO.none _)
      | (with_reducible refine LeO.ite ?_ ?_)
      | (with_reducible refine LeO.bind ?_ (fun _ => ?_))
      | exact ih0 _ _ _ _ _ _ _
      | exact ih1 _ _ _ _ _ _ _
      | exact crc_Turn.mono _ _ _
      | exact crc_divide_uint16.mono _ _ _ _ _ _
      | exact crc_divide_uint32.mono _ _ _ _ _ _
      | exact crc_divide_uint8.mono _ _ _ _ _ _
      | exact LeO.none _
      | refine LeO.ite ?_ ?_
      | refine LeO.bind ?_ (fun _ => ?_)
set_option maxHeartbeats 8000000 in
set_option maxRecDepth 100000 in
theorem crc_Sum.calls (k : Nat) (a0_0 : Int) (a0_1 : Int) (a0_2 : Int) (a0_3 : Bool) (a0_4 : Int) (A1 : Option Addr) (c1 : Nat) (l1 : List Int) (r1 : Int) (r2 : Int) (w : World) (hr1 : Kd.C (Kd.int .u8) w A1 l1.length l1) (hc1 : l1.length ≤ c1) (h : crc_Sum.f k a0_0 a0_1 a0_2 a0_3 a0_4 l1 = some (r1, r2)) :
    Calls Try.prog 89 #[.agg #[.int .i64 a0_0, .int .u32 a0_1, .int .u32 a0_2, .bool a0_3, .int .u32 a0_4], .slice A1 l1.length c1] w fun e w' => e = .returned (.tuple #[.int .u32 r1, .int .i64 r2]) ∧ Below w.heap.size w w' := by
  have hu166 := Try.underlying166
  have HR1 := Aside0.mk hr1
  have HC1 := Aside0.mk hc1
  clear hr1 hc1
  have HB := Aside0.mk (Below.refl w.heap.size w)
  have H : (if a0_0 = 8 then (crc_Sum.j0 k l1 false a0_0 a0_1 a0_2 a0_3 a0_4) else (if a0_0 = 16 then (crc_Sum.j0 k l1 false a0_0 a0_1 a0_2 a0_3 a0_4) else (crc_Sum.j0 k l1 (a0_0 != 32) a0_0 a0_1 a0_2 a0_3 a0_4))) = some (r1, r2) := h
  clear h
  have HC3 := Aside0.mk H
  clear H
  go_enter Try.func89, Try.ntmps89
  go_upto_region 3 with (first | ((with_reducible refine gate_dst (N := 2) rfl ?_); refine box_event ?hg (N := 2) ?hd (cs := #[.int .i64 a0_0, .int .u32 a0_1, .int .u32 a0_2, .bool a0_3, .int .u32 a0_4]) (t := 166) ?hr ?_; (case hd => rfl); (case hg => rfl); (case hr => first | (go_simp; done) | (go_simp; rfl)); intro gb107 hg w4 hbox hb; have n0_ := Aside0.mk (below_step (by repeat (first | (with_reducible first | exact HB.out | apply below_alloc | apply pw_below_drewN | apply below_drew1) | exact HB.out)) hb); have n1_ := Aside0.mk (hbox); have n2_ := Aside0.mk ((by rw [hg]; exact (below_size (by repeat (first | (with_reducible first | exact HB.out | apply below_alloc | apply pw_below_drewN | apply below_drew1) | exact HB.out))) : w.heap.size ≤ gb107)); have n3_ := Aside0.mk ((by rw [hg]; exact (below_size (by repeat (first | (with_reducible first | exact HB.out | apply below_alloc | apply pw_below_drewN | apply below_drew1) | exact HB.out))) : w.heap.size ≤ gb107)); clear HB; have HB := n0_; have BK107 := n1_; have GW107 := n2_; have GE107 := n3_; clear n0_ n1_ n2_ n3_; clear hb hbox hg))
  (try simp only [Act.put, List.setIfInBounds_toArray, List.set_cons_zero, List.set_cons_succ])
  go_cut [17] (fun v17 wc => ∃ (kq : Nat) (x17_2 : Bool), v17 = .bool x17_2 ∧ Aside0 (crc_Sum.j0 kq l1 x17_2 a0_0 a0_1 a0_2 a0_3 a0_4 = some (r1, r2)) ∧ Aside0 (kq ≤ k) ∧ Aside0 (wc.heap[gb107]? = some (.cells #[.int .i64 a0_0, .int .u32 a0_1, .int .u32 a0_2, .bool a0_3, .int .u32 a0_4] 166 (0, 0))) ∧ Aside0 (Below w.heap.size w wc))
  case first =>
    have H := HC3.out
    clear HC3
    by_cases c5 : a0_0 = 8
    · rw [if_pos c5] at H
      have c5b0 : (a0_0 == 8) = true := beq_iff_eq.mpr c5
      have c5b1 : (a0_0 != 8) = false := bne_eq_false_iff_eq.mpr c5
      clear c5
      (first | rw [c5b0] | (simp only [i64_w, i32_w]; rw [c5b0]) | skip)
      have H' := Aside0.mk H
      clear H
      have hcz6_0 : w4.cell? ⟨gb107, 0, none⟩ = some (.int .i64 a0_0) := (blk_cell BK107.out 0).trans rfl
      have hcz6_1 : w4.cell? ⟨gb107, 1, none⟩ = some (.int .u32 a0_1) := (blk_cell BK107.out 1).trans rfl
      have hcz6_2 : w4.cell? ⟨gb107, 2, none⟩ = some (.int .u32 a0_2) := (blk_cell BK107.out 2).trans rfl
      have hcz6_3 : w4.cell? ⟨gb107, 3, none⟩ = some (.bool a0_3) := (blk_cell BK107.out 3).trans rfl
      have hcz6_4 : w4.cell? ⟨gb107, 4, none⟩ = some (.int .u32 a0_4) := (blk_cell BK107.out 4).trans rfl
      have hfz6_0 := blk_frozen BK107.out 0
      have hfz6_1 := blk_frozen BK107.out 1
      have hfz6_2 := blk_frozen BK107.out 2
      have hfz6_3 := blk_frozen BK107.out 3
      have hfz6_4 := blk_frozen BK107.out 4
      go_wp2
      go_meet
      case rel => exact ⟨_, (false), (by first | rfl | (simp; done) | (simp [*]; done)), H', ⟨by first | omega | exact Nat.le_refl _⟩, ⟨by (with_reducible repeat (first | refine blk_drewN ?_ _ | refine blk_drew ?_ | refine blk_alloc ?_ _)); exact BK107.out⟩, ⟨by repeat (first | (with_reducible first | exact HB.out | apply below_alloc | apply pw_below_drewN | apply below_drew1 | refine below_set ?_ GE107.out) | exact HB.out)⟩⟩
    · rw [if_neg c5] at H
      have c5b0 : (a0_0 == 8) = false := beq_eq_false_iff_ne.mpr c5
      have c5b1 : (a0_0 != 8) = true := bne_iff_ne.mpr c5
      (first | rw [c5b0] | (simp only [i64_w, i32_w]; rw [c5b0]) | skip)
      by_cases c7 : a0_0 = 16
      · rw [if_pos c7] at H
        have c7b0 : (a0_0 == 16) = true := beq_iff_eq.mpr c7
        have c7b1 : (a0_0 != 16) = false := bne_eq_false_iff_eq.mpr c7
        clear c7
        have H' := Aside0.mk H
        clear H
        have hcz8_0 : w4.cell? ⟨gb107, 0, none⟩ = some (.int .i64 a0_0) := (blk_cell BK107.out 0).trans rfl
        have hcz8_1 : w4.cell? ⟨gb107, 1, none⟩ = some (.int .u32 a0_1) := (blk_cell BK107.out 1).trans rfl
        have hcz8_2 : w4.cell? ⟨gb107, 2, none⟩ = some (.int .u32 a0_2) := (blk_cell BK107.out 2).trans rfl
        have hcz8_3 : w4.cell? ⟨gb107, 3, none⟩ = some (.bool a0_3) := (blk_cell BK107.out 3).trans rfl
        have hcz8_4 : w4.cell? ⟨gb107, 4, none⟩ = some (.int .u32 a0_4) := (blk_cell BK107.out 4).trans rfl
        have hfz8_0 := blk_frozen BK107.out 0
        have hfz8_1 := blk_frozen BK107.out 1
        have hfz8_2 := blk_frozen BK107.out 2
        have hfz8_3 := blk_frozen BK107.out 3
        have hfz8_4 := blk_frozen BK107.out 4
        go_wp2
        go_meet
        case rel => exact ⟨_, (false), (by first | rfl | (simp; done) | (simp [*]; done)), H', ⟨by first | omega | exact Nat.le_refl _⟩, ⟨by (with_reducible repeat (first | refine blk_drewN ?_ _ | refine blk_drew ?_ | refine blk_alloc ?_ _)); exact BK107.out⟩, ⟨by repeat (first | (with_reducible first | exact HB.out | apply below_alloc | apply pw_below_drewN | apply below_drew1 | refine below_set ?_ GE107.out) | exact HB.out)⟩⟩
      · rw [if_neg c7] at H
        have c7b0 : (a0_0 == 16) = false := beq_eq_false_iff_ne.mpr c7
        have c7b1 : (a0_0 != 16) = true := bne_iff_ne.mpr c7
        have H' := Aside0.mk H
        clear H
        have hcz9_0 : w4.cell? ⟨gb107, 0, none⟩ = some (.int .i64 a0_0) := (blk_cell BK107.out 0).trans rfl
        have hcz9_1 : w4.cell? ⟨gb107, 1, none⟩ = some (.int .u32 a0_1) := (blk_cell BK107.out 1).trans rfl
        have hcz9_2 : w4.cell? ⟨gb107, 2, none⟩ = some (.int .u32 a0_2) := (blk_cell BK107.out 2).trans rfl
        have hcz9_3 : w4.cell? ⟨gb107, 3, none⟩ = some (.bool a0_3) := (blk_cell BK107.out 3).trans rfl
        have hcz9_4 : w4.cell? ⟨gb107, 4, none⟩ = some (.int .u32 a0_4) := (blk_cell BK107.out 4).trans rfl
        have hfz9_0 := blk_frozen BK107.out 0
        have hfz9_1 := blk_frozen BK107.out 1
        have hfz9_2 := blk_frozen BK107.out 2
        have hfz9_3 := blk_frozen BK107.out 3
        have hfz9_4 := blk_frozen BK107.out 4
        go_wp2
        go_meet
        case rel => exact ⟨_, ((a0_0 != 32)), (by first | rfl | (simp; done) | (simp [*]; done)), H', ⟨by first | omega | exact Nat.le_refl _⟩, ⟨by (with_reducible repeat (first | refine blk_drewN ?_ _ | refine blk_drew ?_ | refine blk_alloc ?_ _)); exact BK107.out⟩, ⟨by repeat (first | (with_reducible first | exact HB.out | apply below_alloc | apply pw_below_drewN | apply below_drew1 | refine below_set ?_ GE107.out) | exact HB.out)⟩⟩
  case rest =>
    clear HC3
    try clear c1
    try clear p2
    try clear c5
    try clear c5b0
    try clear c5b1
    try clear c7
    try clear c7b0
    try clear c7b1
    try clear c8
    try clear hcz6_0
    try clear hcz6_1
    try clear hcz6_2
    try clear hcz6_3
    try clear hcz6_4
    try clear hcz8_0
    try clear hcz8_1
    try clear hcz8_2
    try clear hcz8_3
    try clear hcz8_4
    try clear hcz9_0
    try clear hcz9_1
    try clear hcz9_2
    try clear hcz9_3
    try clear hcz9_4
    try clear hfz6_0
    try clear hfz6_1
    try clear hfz6_2
    try clear hfz6_3
    try clear hfz6_4
    try clear hfz8_0
    try clear hfz8_1
    try clear hfz8_2
    try clear hfz8_3
    try clear hfz8_4
    try clear hfz9_0
    try clear hfz9_1
    try clear hfz9_2
    try clear hfz9_3
    try clear hfz9_4
    obtain ⟨kq, x17_2, rfl, HA, HJ2, BK107, HB⟩ := hcut
    cases kq with
    | zero => exact absurd HA.out (by simp [crc_Sum.j0])
    | succ kj2 =>
      have H := HA.out
      clear HA
      simp only [crc_Sum.j0] at H
      by_cases c10 : x17_2 = true
      · subst c10
        have H1 : (some (0, 1)) = some (r1, r2) := by rw [if_pos rfl] at H; exact H
        clear H
        have H := H1
        clear H1
        simp only [Option.some.injEq, Prod.mk.injEq] at H
        obtain ⟨rfl, rfl⟩ := H
        go_wp2
        go_ret2
        exact ⟨by first | rfl | (simp [errW_none, errW_some] <;> rfl) | (simp [*, errW_none, errW_some] <;> rfl), by repeat (first | (with_reducible first | exact HB.out | apply below_alloc | apply pw_below_drewN | apply below_drew1 | refine below_set ?_ GE107.out) | exact HB.out)⟩
      · replace c10 := Bool.eq_false_iff.mpr c10
        subst c10
        have H1 : ((crc_below.f a0_1 a0_0).bind fun t108 => (if t108 = true then ((crc_below.f a0_2 a0_0).bind fun t109 => (if t109 = true then ((crc_below.f a0_4 a0_0).bind fun t110 => (crc_Sum.j1 kj2 l1 (!t110) a0_0 a0_1 a0_2 a0_3 a0_4)) else (crc_Sum.j1 kj2 l1 true a0_0 a0_1 a0_2 a0_3 a0_4))) else (crc_Sum.j1 kj2 l1 true a0_0 a0_1 a0_2 a0_3 a0_4))) = some (r1, r2) := by rw [if_neg (show ¬ (false = true) by decide)] at H; exact H
        clear H
        have H := H1
        clear H1
        have HC11 := Aside0.mk H
        clear H
        go_upto_region 5 with (fail)
        go_cut [31] (fun v31 wc => ∃ (kq : Nat) (x31_10 : Bool), v31 = .bool x31_10 ∧ Aside0 (crc_Sum.j1 kq l1 x31_10 a0_0 a0_1 a0_2 a0_3 a0_4 = some (r1, r2)) ∧ Aside0 (kq ≤ kj2) ∧ Aside0 (wc.heap[gb107]? = some (.cells #[.int .i64 a0_0, .int .u32 a0_1, .int .u32 a0_2, .bool a0_3, .int .u32 a0_4] 166 (0, 0))) ∧ Aside0 (Below w.heap.size w wc))
        case first =>
          have H := HC11.out
          clear HC11
          replace H := Option.bind_eq_some_iff.mp H
          obtain ⟨t108, A120, H⟩ := H
          replace H : (if t108 = true then ((crc_below.f a0_2 a0_0).bind fun t109 => (if t109 = true then ((crc_below.f a0_4 a0_0).bind fun t110 => (crc_Sum.j1 kj2 l1 (!t110) a0_0 a0_1 a0_2 a0_3 a0_4)) else (crc_Sum.j1 kj2 l1 true a0_0 a0_1 a0_2 a0_3 a0_4))) else (crc_Sum.j1 kj2 l1 true a0_0 a0_1 a0_2 a0_3 a0_4)) = some (r1, r2) := H
          have A12 := Aside0.mk A120
          clear A120
          by_cases c13 : t108 = true
          · subst c13
            have H1 : ((crc_below.f a0_2 a0_0).bind fun t109 => (if t109 = true then ((crc_below.f a0_4 a0_0).bind fun t110 => (crc_Sum.j1 kj2 l1 (!t110) a0_0 a0_1 a0_2 a0_3 a0_4)) else (crc_Sum.j1 kj2 l1 true a0_0 a0_1 a0_2 a0_3 a0_4))) = some (r1, r2) := by rw [if_pos rfl] at H; exact H
            clear H
            have H := H1
            clear H1
            replace H := Option.bind_eq_some_iff.mp H
            obtain ⟨t109, A140, H⟩ := H
            replace H : (if t109 = true then ((crc_below.f a0_4 a0_0).bind fun t110 => (crc_Sum.j1 kj2 l1 (!t110) a0_0 a0_1 a0_2 a0_3 a0_4)) else (crc_Sum.j1 kj2 l1 true a0_0 a0_1 a0_2 a0_3 a0_4)) = some (r1, r2) := H
            have A14 := Aside0.mk A140
            clear A140
            by_cases c15 : t109 = true
            · subst c15
              have H1 : ((crc_below.f a0_4 a0_0).bind fun t110 => (crc_Sum.j1 kj2 l1 (!t110) a0_0 a0_1 a0_2 a0_3 a0_4)) = some (r1, r2) := by rw [if_pos rfl] at H; exact H
              clear H
              have H := H1
              clear H1
              replace H := Option.bind_eq_some_iff.mp H
              obtain ⟨t110, A160, H⟩ := H
              replace H : (crc_Sum.j1 kj2 l1 (!t110) a0_0 a0_1 a0_2 a0_3 a0_4) = some (r1, r2) := H
              have A16 := Aside0.mk A160
              clear A160
              have H' := Aside0.mk H
              clear H
              have hcz17_0 : wc.cell? ⟨gb107, 0, none⟩ = some (.int .i64 a0_0) := (blk_cell BK107.out 0).trans rfl
              have hcz17_1 : wc.cell? ⟨gb107, 1, none⟩ = some (.int .u32 a0_1) := (blk_cell BK107.out 1).trans rfl
              have hcz17_2 : wc.cell? ⟨gb107, 2, none⟩ = some (.int .u32 a0_2) := (blk_cell BK107.out 2).trans rfl
              have hcz17_3 : wc.cell? ⟨gb107, 3, none⟩ = some (.bool a0_3) := (blk_cell BK107.out 3).trans rfl
              have hcz17_4 : wc.cell? ⟨gb107, 4, none⟩ = some (.int .u32 a0_4) := (blk_cell BK107.out 4).trans rfl
              have hfz17_0 := blk_frozen BK107.out 0
              have hfz17_1 := blk_frozen BK107.out 1
              have hfz17_2 := blk_frozen BK107.out 2
              have hfz17_3 := blk_frozen BK107.out 3
              have hfz17_4 := blk_frozen BK107.out 4
              go_wp2_with (first | ((with_reducible refine gate_callee (f := 95) rfl ?_); refine goesL_ (some 36) rfl rfl Try.func95 (by kernel_rfl) rfl #[.int .u32 a0_1, .int .i64 a0_0] rfl (by (try simp only [List.map_toArray, List.map_cons, List.map_nil]); first | done | rfl | (simp only [List.length_drop, List.length_take]; rfl)) ?_; (with_reducible refine (crc_below.calls a0_1 a0_0 true _ A12.out).mono ?_); rintro e w' ⟨rfl, ⟨nd, rfl⟩⟩; refine ⟨_, rfl, ?_⟩) | (go_at_call 95; (with_reducible refine (crc_below.calls a0_2 a0_0 true _ A14.out).mono ?_); rintro e w' ⟨rfl, ⟨nd, rfl⟩⟩) | (go_at_call 95; (with_reducible refine (crc_below.calls a0_4 a0_0 t110 _ A16.out).mono ?_); rintro e w' ⟨rfl, ⟨nd, rfl⟩⟩))
              go_meet
              case rel => exact ⟨_, (!t110), (by first | rfl | (simp; done) | (simp [*]; done)), H', ⟨by have := HJ2.out; first | omega | exact Nat.le_refl _⟩, ⟨by (with_reducible repeat (first | refine blk_drewN ?_ _ | refine blk_drew ?_ | refine blk_alloc ?_ _)); exact BK107.out⟩, ⟨by repeat (first | (with_reducible first | exact HB.out | apply below_alloc | apply pw_below_drewN | apply below_drew1 | refine below_set ?_ GE107.out) | exact HB.out)⟩⟩
            · replace c15 := Bool.eq_false_iff.mpr c15
              subst c15
              have H1 : (crc_Sum.j1 kj2 l1 true a0_0 a0_1 a0_2 a0_3 a0_4) = some (r1, r2) := by rw [if_neg (show ¬ (false = true) by decide)] at H; exact H
              clear H
              have H := H1
              clear H1
              have H' := Aside0.mk H
              clear H
              have hcz18_0 : wc.cell? ⟨gb107, 0, none⟩ = some (.int .i64 a0_0) := (blk_cell BK107.out 0).trans rfl
              have hcz18_1 : wc.cell? ⟨gb107, 1, none⟩ = some (.int .u32 a0_1) := (blk_cell BK107.out 1).trans rfl
              have hcz18_2 : wc.cell? ⟨gb107, 2, none⟩ = some (.int .u32 a0_2) := (blk_cell BK107.out 2).trans rfl
              have hcz18_3 : wc.cell? ⟨gb107, 3, none⟩ = some (.bool a0_3) := (blk_cell BK107.out 3).trans rfl
              have hcz18_4 : wc.cell? ⟨gb107, 4, none⟩ = some (.int .u32 a0_4) := (blk_cell BK107.out 4).trans rfl
              have hfz18_0 := blk_frozen BK107.out 0
              have hfz18_1 := blk_frozen BK107.out 1
              have hfz18_2 := blk_frozen BK107.out 2
              have hfz18_3 := blk_frozen BK107.out 3
              have hfz18_4 := blk_frozen BK107.out 4
              go_wp2_with (first | ((with_reducible refine gate_callee (f := 95) rfl ?_); refine goesL_ (some 36) rfl rfl Try.func95 (by kernel_rfl) rfl #[.int .u32 a0_1, .int .i64 a0_0] rfl (by (try simp only [List.map_toArray, List.map_cons, List.map_nil]); first | done | rfl | (simp only [List.length_drop, List.length_take]; rfl)) ?_; (with_reducible refine (crc_below.calls a0_1 a0_0 true _ A12.out).mono ?_); rintro e w' ⟨rfl, ⟨nd, rfl⟩⟩; refine ⟨_, rfl, ?_⟩) | (go_at_call 95; (with_reducible refine (crc_below.calls a0_2 a0_0 false _ A14.out).mono ?_); rintro e w' ⟨rfl, ⟨nd, rfl⟩⟩))
              go_meet
              case rel => exact ⟨_, (true), (by first | rfl | (simp; done) | (simp [*]; done)), H', ⟨by have := HJ2.out; first | omega | exact Nat.le_refl _⟩, ⟨by (with_reducible repeat (first | refine blk_drewN ?_ _ | refine blk_drew ?_ | refine blk_alloc ?_ _)); exact BK107.out⟩, ⟨by repeat (first | (with_reducible first | exact HB.out | apply below_alloc | apply pw_below_drewN | apply below_drew1 | refine below_set ?_ GE107.out) | exact HB.out)⟩⟩
          · replace c13 := Bool.eq_false_iff.mpr c13
            subst c13
            have H1 : (crc_Sum.j1 kj2 l1 true a0_0 a0_1 a0_2 a0_3 a0_4) = some (r1, r2) := by rw [if_neg (show ¬ (false = true) by decide)] at H; exact H
            clear H
            have H := H1
            clear H1
            have H' := Aside0.mk H
            clear H
            have hcz19_0 : wc.cell? ⟨gb107, 0, none⟩ = some (.int .i64 a0_0) := (blk_cell BK107.out 0).trans rfl
            have hcz19_1 : wc.cell? ⟨gb107, 1, none⟩ = some (.int .u32 a0_1) := (blk_cell BK107.out 1).trans rfl
            have hcz19_2 : wc.cell? ⟨gb107, 2, none⟩ = some (.int .u32 a0_2) := (blk_cell BK107.out 2).trans rfl
            have hcz19_3 : wc.cell? ⟨gb107, 3, none⟩ = some (.bool a0_3) := (blk_cell BK107.out 3).trans rfl
            have hcz19_4 : wc.cell? ⟨gb107, 4, none⟩ = some (.int .u32 a0_4) := (blk_cell BK107.out 4).trans rfl
            have hfz19_0 := blk_frozen BK107.out 0
            have hfz19_1 := blk_frozen BK107.out 1
            have hfz19_2 := blk_frozen BK107.out 2
            have hfz19_3 := blk_frozen BK107.out 3
            have hfz19_4 := blk_frozen BK107.out 4
            go_wp2_with (first | ((with_reducible refine gate_callee (f := 95) rfl ?_); refine goesL_ (some 36) rfl rfl Try.func95 (by kernel_rfl) rfl #[.int .u32 a0_1, .int .i64 a0_0] rfl (by (try simp only [List.map_toArray, List.map_cons, List.map_nil]); first | done | rfl | (simp only [List.length_drop, List.length_take]; rfl)) ?_; (with_reducible refine (crc_below.calls a0_1 a0_0 false _ A12.out).mono ?_); rintro e w' ⟨rfl, ⟨nd, rfl⟩⟩; refine ⟨_, rfl, ?_⟩))
            go_meet
            case rel => exact ⟨_, (true), (by first | rfl | (simp; done) | (simp [*]; done)), H', ⟨by have := HJ2.out; first | omega | exact Nat.le_refl _⟩, ⟨by (with_reducible repeat (first | refine blk_drewN ?_ _ | refine blk_drew ?_ | refine blk_alloc ?_ _)); exact BK107.out⟩, ⟨by repeat (first | (with_reducible first | exact HB.out | apply below_alloc | apply pw_below_drewN | apply below_drew1 | refine below_set ?_ GE107.out) | exact HB.out)⟩⟩
        case rest =>
          clear HC11
          try clear c1
          try clear p2
          try clear c5
          try clear c5b0
          try clear c5b1
          try clear c7
          try clear c7b0
          try clear c7b1
          try clear c8
          try clear c9
          try clear c10
          try clear c13
          try clear c15
          try clear hcz17_0
          try clear hcz17_1
          try clear hcz17_2
          try clear hcz17_3
          try clear hcz17_4
          try clear hcz18_0
          try clear hcz18_1
          try clear hcz18_2
          try clear hcz18_3
          try clear hcz18_4
          try clear hcz19_0
          try clear hcz19_1
          try clear hcz19_2
          try clear hcz19_3
          try clear hcz19_4
          try clear hcz6_0
          try clear hcz6_1
          try clear hcz6_2
          try clear hcz6_3
          try clear hcz6_4
          try clear hcz8_0
          try clear hcz8_1
          try clear hcz8_2
          try clear hcz8_3
          try clear hcz8_4
          try clear hcz9_0
          try clear hcz9_1
          try clear hcz9_2
          try clear hcz9_3
          try clear hcz9_4
          try clear hfz17_0
          try clear hfz17_1
          try clear hfz17_2
          try clear hfz17_3
          try clear hfz17_4
          try clear hfz18_0
          try clear hfz18_1
          try clear hfz18_2
          try clear hfz18_3
          try clear hfz18_4
          try clear hfz19_0
          try clear hfz19_1
          try clear hfz19_2
          try clear hfz19_3
          try clear hfz19_4
          try clear hfz6_0
          try clear hfz6_1
          try clear hfz6_2
          try clear hfz6_3
          try clear hfz6_4
          try clear hfz8_0
          try clear hfz8_1
          try clear hfz8_2
          try clear hfz8_3
          try clear hfz8_4
          try clear hfz9_0
          try clear hfz9_1
          try clear hfz9_2
          try clear hfz9_3
          try clear hfz9_4
          try clear p2
          obtain ⟨kq, x31_10, rfl, HA, HJ10, BK107, HB⟩ := hcut
          cases kq with
          | zero => exact absurd HA.out (by simp [crc_Sum.j1])
          | succ kj10 =>
            have H := HA.out
            clear HA
            simp only [crc_Sum.j1] at H
            by_cases c20 : x31_10 = true
            · subst c20
              have H1 : (some (0, 1)) = some (r1, r2) := by rw [if_pos rfl] at H; exact H
              clear H
              have H := H1
              clear H1
              simp only [Option.some.injEq, Prod.mk.injEq] at H
              obtain ⟨rfl, rfl⟩ := H
              go_wp2
              go_ret2
              exact ⟨by first | rfl | (simp [errW_none, errW_some] <;> rfl) | (simp [*, errW_none, errW_some] <;> rfl), by repeat (first | (with_reducible first | exact HB.out | apply below_alloc | apply pw_below_drewN | apply below_drew1 | refine below_set ?_ GE107.out) | exact HB.out)⟩
            · replace c20 := Bool.eq_false_iff.mpr c20
              subst c20
              have H1 : (if a0_0 = 8 then ((crc_divide_uint8.f kj10 a0_0 ((a0_1) % 256) ((a0_2) % 256) a0_3 l1).bind fun t111 => (if a0_3 = true then ((crc_Turn.f kj10 ((t111) % 4294967296) a0_0).bind fun t112 => (some (Go.bits .xor .u32 t112 a0_4, 0))) else (some (Go.bits .xor .u32 ((t111) % 4294967296) a0_4, 0)))) else (if a0_0 = 16 then ((crc_divide_uint16.f kj10 a0_0 (IntKind.u16.wrap (a0_1)) (IntKind.u16.wrap (a0_2)) a0_3 l1).bind fun t113 => (if a0_3 = true then ((crc_Turn.f kj10 ((t113) % 4294967296) a0_0).bind fun t114 => (some (Go.bits .xor .u32 t114 a0_4, 0))) else (some (Go.bits .xor .u32 ((t113) % 4294967296) a0_4, 0)))) else ((crc_divide_uint32.f kj10 a0_0 a0_1 a0_2 a0_3 l1).bind fun t115 => (if a0_3 = true then ((crc_Turn.f kj10 t115 a0_0).bind fun t116 => (some (Go.bits .xor .u32 t116 a0_4, 0))) else (some (Go.bits .xor .u32 t115 a0_4, 0)))))) = some (r1, r2) := by rw [if_neg (show ¬ (false = true) by decide)] at H; exact H
              clear H
              have H := H1
              clear H1
              by_cases c21 : a0_0 = 8
              · rw [if_pos c21] at H
                have c21b0 : (a0_0 == 8) = true := beq_iff_eq.mpr c21
                have c21b1 : (a0_0 != 8) = false := bne_eq_false_iff_eq.mpr c21
                clear c21
                replace H := Option.bind_eq_some_iff.mp H
                obtain ⟨t111, A220, H⟩ := H
                replace H : (if a0_3 = true then ((crc_Turn.f kj10 ((t111) % 4294967296) a0_0).bind fun t112 => (some (Go.bits .xor .u32 t112 a0_4, 0))) else (some (Go.bits .xor .u32 ((t111) % 4294967296) a0_4, 0))) = some (r1, r2) := H
                have A22 := Aside0.mk A220
                clear A220
                by_cases c23 : a0_3 = true
                · subst c23
                  have H1 : ((crc_Turn.f kj10 ((t111) % 4294967296) a0_0).bind fun t112 => (some (Go.bits .xor .u32 t112 a0_4, 0))) = some (r1, r2) := by rw [if_pos rfl] at H; exact H
                  clear H
                  have H := H1
                  clear H1
                  replace H := Option.bind_eq_some_iff.mp H
                  obtain ⟨t112, A240, H⟩ := H
                  replace H : (some (Go.bits .xor .u32 t112 a0_4, 0)) = some (r1, r2) := H
                  have A24 := Aside0.mk A240
                  clear A240
                  simp only [Option.some.injEq, Prod.mk.injEq] at H
                  obtain ⟨rfl, rfl⟩ := H
                  have hcz25_0 : wc.cell? ⟨gb107, 0, none⟩ = some (.int .i64 a0_0) := (blk_cell BK107.out 0).trans rfl
                  have hcz25_1 : wc.cell? ⟨gb107, 1, none⟩ = some (.int .u32 a0_1) := (blk_cell BK107.out 1).trans rfl
                  have hcz25_2 : wc.cell? ⟨gb107, 2, none⟩ = some (.int .u32 a0_2) := (blk_cell BK107.out 2).trans rfl
                  have hcz25_3 : wc.cell? ⟨gb107, 3, none⟩ = some (.bool true) := (blk_cell BK107.out 3).trans rfl
                  have hcz25_4 : wc.cell? ⟨gb107, 4, none⟩ = some (.int .u32 a0_4) := (blk_cell BK107.out 4).trans rfl
                  have hfz25_0 := blk_frozen BK107.out 0
                  have hfz25_1 := blk_frozen BK107.out 1
                  have hfz25_2 := blk_frozen BK107.out 2
                  have hfz25_3 := blk_frozen BK107.out 3
                  have hfz25_4 := blk_frozen BK107.out 4
                  go_wp2_with (first | ((with_reducible refine gate_callee (f := 96) rfl ?_); refine goesL_ (some 69) rfl rfl Try.func96 (by kernel_rfl) rfl #[.int .i64 a0_0, .int .u8 ((a0_1) % 256), .int .u8 ((a0_2) % 256), .bool true, .slice A1 l1.length c1] rfl (by (try simp only [List.map_toArray, List.map_cons, List.map_nil]); first | done | rfl | (simp only [List.length_drop, List.length_take]; rfl)) ?_; (with_reducible refine (crc_divide_uint8.calls kj10 a0_0 ((a0_1) % 256) ((a0_2) % 256) true _ _ l1 t111 _ ?side1 ?side2 A22.out).mono ?_); (case side1 => repeat (first | exact (Kd.C_below HR1.out HB.out) | (with_reducible refine Kd.C_alloc ?_ _) | (with_reducible refine Kd.C_drewN ?_ _) | (with_reducible refine Kd.C_drew ?_))); (case side2 => exact HC1.out); rintro e w' ⟨rfl, ⟨nd, rfl⟩⟩; refine ⟨_, rfl, ?_⟩) | ((with_reducible refine gate_callee (f := 99) rfl ?_); refine goesL_ (some 93) rfl rfl Try.func99 (by kernel_rfl) rfl #[.int .u32 ((t111) % 4294967296), .int .i64 a0_0] rfl (by (try simp only [List.map_toArray, List.map_cons, List.map_nil]); first | done | rfl | (simp only [List.length_drop, List.length_take]; rfl)) ?_; (with_reducible refine (crc_Turn.calls kj10 ((t111) % 4294967296) a0_0 t112 _ A24.out).mono ?_); rintro e w' ⟨rfl, ⟨nd, rfl⟩⟩; refine ⟨_, rfl, ?_⟩))
                  go_ret2
                  exact ⟨by first | rfl | (simp [errW_none, errW_some] <;> rfl) | (simp [*, errW_none, errW_some] <;> rfl), by repeat (first | (with_reducible first | exact HB.out | apply below_alloc | apply pw_below_drewN | apply below_drew1 | refine below_set ?_ GE107.out) | exact HB.out)⟩
                · replace c23 := Bool.eq_false_iff.mpr c23
                  subst c23
                  have H1 : (some (Go.bits .xor .u32 ((t111) % 4294967296) a0_4, 0)) = some (r1, r2) := by rw [if_neg (show ¬ (false = true) by decide)] at H; exact H
                  clear H
                  have H := H1
                  clear H1
                  simp only [Option.some.injEq, Prod.mk.injEq] at H
                  obtain ⟨rfl, rfl⟩ := H
                  have hcz26_0 : wc.cell? ⟨gb107, 0, none⟩ = some (.int .i64 a0_0) := (blk_cell BK107.out 0).trans rfl
                  have hcz26_1 : wc.cell? ⟨gb107, 1, none⟩ = some (.int .u32 a0_1) := (blk_cell BK107.out 1).trans rfl
                  have hcz26_2 : wc.cell? ⟨gb107, 2, none⟩ = some (.int .u32 a0_2) := (blk_cell BK107.out 2).trans rfl
                  have hcz26_3 : wc.cell? ⟨gb107, 3, none⟩ = some (.bool false) := (blk_cell BK107.out 3).trans rfl
                  have hcz26_4 : wc.cell? ⟨gb107, 4, none⟩ = some (.int .u32 a0_4) := (blk_cell BK107.out 4).trans rfl
                  have hfz26_0 := blk_frozen BK107.out 0
                  have hfz26_1 := blk_frozen BK107.out 1
                  have hfz26_2 := blk_frozen BK107.out 2
                  have hfz26_3 := blk_frozen BK107.out 3
                  have hfz26_4 := blk_frozen BK107.out 4
                  go_wp2_with (first | ((with_reducible refine gate_callee (f := 96) rfl ?_); refine goesL_ (some 69) rfl rfl Try.func96 (by kernel_rfl) rfl #[.int .i64 a0_0, .int .u8 ((a0_1) % 256), .int .u8 ((a0_2) % 256), .bool false, .slice A1 l1.length c1] rfl (by (try simp only [List.map_toArray, List.map_cons, List.map_nil]); first | done | rfl | (simp only [List.length_drop, List.length_take]; rfl)) ?_; (with_reducible refine (crc_divide_uint8.calls kj10 a0_0 ((a0_1) % 256) ((a0_2) % 256) false _ _ l1 t111 _ ?side1 ?side2 A22.out).mono ?_); (case side1 => repeat (first | exact (Kd.C_below HR1.out HB.out) | (with_reducible refine Kd.C_alloc ?_ _) | (with_reducible refine Kd.C_drewN ?_ _) | (with_reducible refine Kd.C_drew ?_))); (case side2 => exact HC1.out); rintro e w' ⟨rfl, ⟨nd, rfl⟩⟩; refine ⟨_, rfl, ?_⟩))
                  go_ret2
                  exact ⟨by first | rfl | (simp [errW_none, errW_some] <;> rfl) | (simp [*, errW_none, errW_some] <;> rfl), by repeat (first | (with_reducible first | exact HB.out | apply below_alloc | apply pw_below_drewN | apply below_drew1 | refine below_set ?_ GE107.out) | exact HB.out)⟩
              · rw [if_neg c21] at H
                have c21b0 : (a0_0 == 8) = false := beq_eq_false_iff_ne.mpr c21
                have c21b1 : (a0_0 != 8) = true := bne_iff_ne.mpr c21
                by_cases c27 : a0_0 = 16
                · rw [if_pos c27] at H
                  have c27b0 : (a0_0 == 16) = true := beq_iff_eq.mpr c27
                  have c27b1 : (a0_0 != 16) = false := bne_eq_false_iff_eq.mpr c27
                  clear c27
                  replace H := Option.bind_eq_some_iff.mp H
                  obtain ⟨t113, A280, H⟩ := H
                  replace H : (if a0_3 = true then ((crc_Turn.f kj10 ((t113) % 4294967296) a0_0).bind fun t114 => (some (Go.bits .xor .u32 t114 a0_4, 0))) else (some (Go.bits .xor .u32 ((t113) % 4294967296) a0_4, 0))) = some (r1, r2) := H
                  have A28 := Aside0.mk A280
                  clear A280
                  by_cases c29 : a0_3 = true
                  · subst c29
                    have H1 : ((crc_Turn.f kj10 ((t113) % 4294967296) a0_0).bind fun t114 => (some (Go.bits .xor .u32 t114 a0_4, 0))) = some (r1, r2) := by rw [if_pos rfl] at H; exact H
                    clear H
                    have H := H1
                    clear H1
                    replace H := Option.bind_eq_some_iff.mp H
                    obtain ⟨t114, A300, H⟩ := H
                    replace H : (some (Go.bits .xor .u32 t114 a0_4, 0)) = some (r1, r2) := H
                    have A30 := Aside0.mk A300
                    clear A300
                    simp only [Option.some.injEq, Prod.mk.injEq] at H
                    obtain ⟨rfl, rfl⟩ := H
                    have hcz31_0 : wc.cell? ⟨gb107, 0, none⟩ = some (.int .i64 a0_0) := (blk_cell BK107.out 0).trans rfl
                    have hcz31_1 : wc.cell? ⟨gb107, 1, none⟩ = some (.int .u32 a0_1) := (blk_cell BK107.out 1).trans rfl
                    have hcz31_2 : wc.cell? ⟨gb107, 2, none⟩ = some (.int .u32 a0_2) := (blk_cell BK107.out 2).trans rfl
                    have hcz31_3 : wc.cell? ⟨gb107, 3, none⟩ = some (.bool true) := (blk_cell BK107.out 3).trans rfl
                    have hcz31_4 : wc.cell? ⟨gb107, 4, none⟩ = some (.int .u32 a0_4) := (blk_cell BK107.out 4).trans rfl
                    have hfz31_0 := blk_frozen BK107.out 0
                    have hfz31_1 := blk_frozen BK107.out 1
                    have hfz31_2 := blk_frozen BK107.out 2
                    have hfz31_3 := blk_frozen BK107.out 3
                    have hfz31_4 := blk_frozen BK107.out 4
                    go_wp2_with (first | ((with_reducible refine gate_callee (f := 97) rfl ?_); refine goesL_ (some 86) rfl rfl Try.func97 (by kernel_rfl) rfl #[.int .i64 a0_0, .int .u16 (IntKind.u16.wrap (a0_1)), .int .u16 (IntKind.u16.wrap (a0_2)), .bool true, .slice A1 l1.length c1] rfl (by (try simp only [List.map_toArray, List.map_cons, List.map_nil]); first | done | rfl | (simp only [List.length_drop, List.length_take]; rfl)) ?_; (with_reducible refine (crc_divide_uint16.calls kj10 a0_0 (IntKind.u16.wrap (a0_1)) (IntKind.u16.wrap (a0_2)) true _ _ l1 t113 _ ?side1 ?side2 A28.out).mono ?_); (case side1 => repeat (first | exact (Kd.C_below HR1.out HB.out) | (with_reducible refine Kd.C_alloc ?_ _) | (with_reducible refine Kd.C_drewN ?_ _) | (with_reducible refine Kd.C_drew ?_))); (case side2 => exact HC1.out); rintro e w' ⟨rfl, ⟨nd, rfl⟩⟩; refine ⟨_, rfl, ?_⟩) | ((with_reducible refine gate_callee (f := 99) rfl ?_); refine goesL_ (some 93) rfl rfl Try.func99 (by kernel_rfl) rfl #[.int .u32 ((t113) % 4294967296), .int .i64 a0_0] rfl (by (try simp only [List.map_toArray, List.map_cons, List.map_nil]); first | done | rfl | (simp only [List.length_drop, List.length_take]; rfl)) ?_; (with_reducible refine (crc_Turn.calls kj10 ((t113) % 4294967296) a0_0 t114 _ A30.out).mono ?_); rintro e w' ⟨rfl, ⟨nd, rfl⟩⟩; refine ⟨_, rfl, ?_⟩))
                    go_ret2
                    exact ⟨by first | rfl | (simp [errW_none, errW_some] <;> rfl) | (simp [*, errW_none, errW_some] <;> rfl), by repeat (first | (with_reducible first | exact HB.out | apply below_alloc | apply pw_below_drewN | apply below_drew1 | refine below_set ?_ GE107.out) | exact HB.out)⟩
                  · replace c29 := Bool.eq_false_iff.mpr c29
                    subst c29
                    have H1 : (some (Go.bits .xor .u32 ((t113) % 4294967296) a0_4, 0)) = some (r1, r2) := by rw [if_neg (show ¬ (false = true) by decide)] at H; exact H
                    clear H
                    have H := H1
                    clear H1
                    simp only [Option.some.injEq, Prod.mk.injEq] at H
                    obtain ⟨rfl, rfl⟩ := H
                    have hcz32_0 : wc.cell? ⟨gb107, 0, none⟩ = some (.int .i64 a0_0) := (blk_cell BK107.out 0).trans rfl
                    have hcz32_1 : wc.cell? ⟨gb107, 1, none⟩ = some (.int .u32 a0_1) := (blk_cell BK107.out 1).trans rfl
                    have hcz32_2 : wc.cell? ⟨gb107, 2, none⟩ = some (.int .u32 a0_2) := (blk_cell BK107.out 2).trans rfl
                    have hcz32_3 : wc.cell? ⟨gb107, 3, none⟩ = some (.bool false) := (blk_cell BK107.out 3).trans rfl
                    have hcz32_4 : wc.cell? ⟨gb107, 4, none⟩ = some (.int .u32 a0_4) := (blk_cell BK107.out 4).trans rfl
                    have hfz32_0 := blk_frozen BK107.out 0
                    have hfz32_1 := blk_frozen BK107.out 1
                    have hfz32_2 := blk_frozen BK107.out 2
                    have hfz32_3 := blk_frozen BK107.out 3
                    have hfz32_4 := blk_frozen BK107.out 4
                    go_wp2_with (first | ((with_reducible refine gate_callee (f := 97) rfl ?_); refine goesL_ (some 86) rfl rfl Try.func97 (by kernel_rfl) rfl #[.int .i64 a0_0, .int .u16 (IntKind.u16.wrap (a0_1)), .int .u16 (IntKind.u16.wrap (a0_2)), .bool false, .slice A1 l1.length c1] rfl (by (try simp only [List.map_toArray, List.map_cons, List.map_nil]); first | done | rfl | (simp only [List.length_drop, List.length_take]; rfl)) ?_; (with_reducible refine (crc_divide_uint16.calls kj10 a0_0 (IntKind.u16.wrap (a0_1)) (IntKind.u16.wrap (a0_2)) false _ _ l1 t113 _ ?side1 ?side2 A28.out).mono ?_); (case side1 => repeat (first | exact (Kd.C_below HR1.out HB.out) | (with_reducible refine Kd.C_alloc ?_ _) | (with_reducible refine Kd.C_drewN ?_ _) | (with_reducible refine Kd.C_drew ?_))); (case side2 => exact HC1.out); rintro e w' ⟨rfl, ⟨nd, rfl⟩⟩; refine ⟨_, rfl, ?_⟩))
                    go_ret2
                    exact ⟨by first | rfl | (simp [errW_none, errW_some] <;> rfl) | (simp [*, errW_none, errW_some] <;> rfl), by repeat (first | (with_reducible first | exact HB.out | apply below_alloc | apply pw_below_drewN | apply below_drew1 | refine below_set ?_ GE107.out) | exact HB.out)⟩
                · rw [if_neg c27] at H
                  have c27b0 : (a0_0 == 16) = false := beq_eq_false_iff_ne.mpr c27
                  have c27b1 : (a0_0 != 16) = true := bne_iff_ne.mpr c27
                  replace H := Option.bind_eq_some_iff.mp H
                  obtain ⟨t115, A330, H⟩ := H
                  replace H : (if a0_3 = true then ((crc_Turn.f kj10 t115 a0_0).bind fun t116 => (some (Go.bits .xor .u32 t116 a0_4, 0))) else (some (Go.bits .xor .u32 t115 a0_4, 0))) = some (r1, r2) := H
                  have A33 := Aside0.mk A330
                  clear A330
                  by_cases c34 : a0_3 = true
                  · subst c34
                    have H1 : ((crc_Turn.f kj10 t115 a0_0).bind fun t116 => (some (Go.bits .xor .u32 t116 a0_4, 0))) = some (r1, r2) := by rw [if_pos rfl] at H; exact H
                    clear H
                    have H := H1
                    clear H1
                    replace H := Option.bind_eq_some_iff.mp H
                    obtain ⟨t116, A350, H⟩ := H
                    replace H : (some (Go.bits .xor .u32 t116 a0_4, 0)) = some (r1, r2) := H
                    have A35 := Aside0.mk A350
                    clear A350
                    simp only [Option.some.injEq, Prod.mk.injEq] at H
                    obtain ⟨rfl, rfl⟩ := H
                    have hcz36_0 : wc.cell? ⟨gb107, 0, none⟩ = some (.int .i64 a0_0) := (blk_cell BK107.out 0).trans rfl
                    have hcz36_1 : wc.cell? ⟨gb107, 1, none⟩ = some (.int .u32 a0_1) := (blk_cell BK107.out 1).trans rfl
                    have hcz36_2 : wc.cell? ⟨gb107, 2, none⟩ = some (.int .u32 a0_2) := (blk_cell BK107.out 2).trans rfl
                    have hcz36_3 : wc.cell? ⟨gb107, 3, none⟩ = some (.bool true) := (blk_cell BK107.out 3).trans rfl
                    have hcz36_4 : wc.cell? ⟨gb107, 4, none⟩ = some (.int .u32 a0_4) := (blk_cell BK107.out 4).trans rfl
                    have hfz36_0 := blk_frozen BK107.out 0
                    have hfz36_1 := blk_frozen BK107.out 1
                    have hfz36_2 := blk_frozen BK107.out 2
                    have hfz36_3 := blk_frozen BK107.out 3
                    have hfz36_4 := blk_frozen BK107.out 4
                    go_wp2_with (first | ((with_reducible refine gate_callee (f := 98) rfl ?_); refine goesL_ (some 16) rfl rfl Try.func98 (by kernel_rfl) rfl #[.int .i64 a0_0, .int .u32 a0_1, .int .u32 a0_2, .bool true, .slice A1 l1.length c1] rfl (by (try simp only [List.map_toArray, List.map_cons, List.map_nil]); first | done | rfl | (simp only [List.length_drop, List.length_take]; rfl)) ?_; (with_reducible refine (crc_divide_uint32.calls kj10 a0_0 a0_1 a0_2 true _ _ l1 t115 _ ?side1 ?side2 A33.out).mono ?_); (case side1 => repeat (first | exact (Kd.C_below HR1.out HB.out) | (with_reducible refine Kd.C_alloc ?_ _) | (with_reducible refine Kd.C_drewN ?_ _) | (with_reducible refine Kd.C_drew ?_))); (case side2 => exact HC1.out); rintro e w' ⟨rfl, ⟨nd, rfl⟩⟩; refine ⟨_, rfl, ?_⟩) | ((with_reducible refine gate_callee (f := 99) rfl ?_); refine goesL_ (some 93) rfl rfl Try.func99 (by kernel_rfl) rfl #[.int .u32 t115, .int .i64 a0_0] rfl (by (try simp only [List.map_toArray, List.map_cons, List.map_nil]); first | done | rfl | (simp only [List.length_drop, List.length_take]; rfl)) ?_; (with_reducible refine (crc_Turn.calls kj10 t115 a0_0 t116 _ A35.out).mono ?_); rintro e w' ⟨rfl, ⟨nd, rfl⟩⟩; refine ⟨_, rfl, ?_⟩))
                    go_ret2
                    exact ⟨by first | rfl | (simp [errW_none, errW_some] <;> rfl) | (simp [*, errW_none, errW_some] <;> rfl), by repeat (first | (with_reducible first | exact HB.out | apply below_alloc | apply pw_below_drewN | apply below_drew1 | refine below_set ?_ GE107.out) | exact HB.out)⟩
                  · replace c34 := Bool.eq_false_iff.mpr c34
                    subst c34
                    have H1 : (some (Go.bits .xor .u32 t115 a0_4, 0)) = some (r1, r2) := by rw [if_neg (show ¬ (false = true) by decide)] at H; exact H
                    clear H
                    have H := H1
                    clear H1
                    simp only [Option.some.injEq, Prod.mk.injEq] at H
                    obtain ⟨rfl, rfl⟩ := H
                    have hcz37_0 : wc.cell? ⟨gb107, 0, none⟩ = some (.int .i64 a0_0) := (blk_cell BK107.out 0).trans rfl
                    have hcz37_1 : wc.cell? ⟨gb107, 1, none⟩ = some (.int .u32 a0_1) := (blk_cell BK107.out 1).trans rfl
                    have hcz37_2 : wc.cell? ⟨gb107, 2, none⟩ = some (.int .u32 a0_2) := (blk_cell BK107.out 2).trans rfl
                    have hcz37_3 : wc.cell? ⟨gb107, 3, none⟩ = some (.bool false) := (blk_cell BK107.out 3).trans rfl
                    have hcz37_4 : wc.cell? ⟨gb107, 4, none⟩ = some (.int .u32 a0_4) := (blk_cell BK107.out 4).trans rfl
                    have hfz37_0 := blk_frozen BK107.out 0
                    have hfz37_1 := blk_frozen BK107.out 1
                    have hfz37_2 := blk_frozen BK107.out 2
                    have hfz37_3 := blk_frozen BK107.out 3
                    have hfz37_4 := blk_frozen BK107.out 4
                    go_wp2_with (first | ((with_reducible refine gate_callee (f := 98) rfl ?_); refine goesL_ (some 16) rfl rfl Try.func98 (by kernel_rfl) rfl #[.int .i64 a0_0, .int .u32 a0_1, .int .u32 a0_2, .bool false, .slice A1 l1.length c1] rfl (by (try simp only [List.map_toArray, List.map_cons, List.map_nil]); first | done | rfl | (simp only [List.length_drop, List.length_take]; rfl)) ?_; (with_reducible refine (crc_divide_uint32.calls kj10 a0_0 a0_1 a0_2 false _ _ l1 t115 _ ?side1 ?side2 A33.out).mono ?_); (case side1 => repeat (first | exact (Kd.C_below HR1.out HB.out) | (with_reducible refine Kd.C_alloc ?_ _) | (with_reducible refine Kd.C_drewN ?_ _) | (with_reducible refine Kd.C_drew ?_))); (case side2 => exact HC1.out); rintro e w' ⟨rfl, ⟨nd, rfl⟩⟩; refine ⟨_, rfl, ?_⟩))
                    go_ret2
                    exact ⟨by first | rfl | (simp [errW_none, errW_some] <;> rfl) | (simp [*, errW_none, errW_some] <;> rfl), by repeat (first | (with_reducible first | exact HB.out | apply below_alloc | apply pw_below_drewN | apply below_drew1 | refine below_set ?_ GE107.out) | exact HB.out)⟩

end Go.Proofs.Ytmnohhmnkmnikaa.PSum
