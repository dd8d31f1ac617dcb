import Derived.RangeFuncNested
import Derived.RangeFuncBound
import Derived.RangeFuncCalls
import Derived.RangeFuncLeaves
import Derived.RangeFuncBox
import Derived.Shelf.Abstract
import Derived.Shelf.RegionOpen
import Derived.WalkKit
import Derived.OwnWalkIn
import Derived.TacticsInMore
import Derived.LoopNIn
import Derived.LoopIn
import Derived.Maps.AppendAt
import Derived.Test.YtcmofedfbjpjlaaRingAct
/- A ring's List, walked: a range over its iterator. -/
set_option linter.unusedVariables false
set_option linter.unusedSimpArgs false
namespace Go.Proofs.Ytcmofedfbjpjlaa.RingListAct
open Go.RowKit Go.Shelf Go.Proofs.YtcmofedfbjpjlaaW.PrintWords Go.Proofs.Ytcmofedfbjpjlaa.Nats Go.Proofs.Ytcmofedfbjpjlaa.RingAct
attribute [local go_sem] Oper.semAt_some

/-- What a round keeps: what lay below n₀; the iterator's box. -/
def Kp (n₀ Bn : Nat) (W W' : World) : Prop := Below n₀ W W' ∧ ∀ o, W.heap[Bn]? = some o → W'.heap[Bn]? = some o
theorem Kp.refl (n₀ Bn : Nat) (W : World) : Kp n₀ Bn W W := ⟨Below.refl _ _, fun _ h => h⟩
theorem Kp.trans {n₀ Bn : Nat} {A B C : World} (h : Kp n₀ Bn A B) (k : Kp n₀ Bn B C) : Kp n₀ Bn A C := ⟨h.1.trans k.1, fun o ho => k.2 o (h.2 o ho)⟩
theorem Kp.book {n₀ Bn : Nat} {w : World} (hn : n₀ ≤ w.heap.size) (hB : Bn < w.heap.size) (W : World) (l : Nat) (o o' : Obj) (hl : w.heap.size ≤ l) (h : W.heap[l]? = some o) (h1 : o.isCells = false) (h2 : o.isWalk = false) : Kp n₀ Bn W (W.putObj l o') :=
  ⟨belowK_b hn W l o o' hl h h1 h2, fun q hq => (World.putObj_heap_other (by omega)).trans hq⟩
def enc (x : Bool × Int) : Value := .agg #[.bool x.1, .int .i64 x.2]
/-- What has come when k rounds are over. -/
def upto {α : Type} (f : Nat → α) (k : Nat) : List α := (List.range k).map f
theorem upto_succ {α : Type} (f : Nat → α) (k : Nat) : upto f (k + 1) = upto f k ++ [f k] := by simp [upto, List.range_succ]
theorem upto_length {α : Type} (f : Nat → α) (k : Nat) : (upto f k).length = k := by simp [upto]
/-- What waits, the oldest first. -/
def waits (vs : List (Bool × Int)) (f most n : Nat) : List (Bool × Int) := upto (fun i => vs.getD ((f + i) % most) ((false, 0) : Bool × Int)) n

theorem _root_.Go.Proofs.Ytcmofedfbjpjlaa.RingAct.Rg.step2 {n₀ Bn : Nat} {W w2 : World} {gb ga most f n lost : Nat} {vs : List (Bool × Int)} (h : Rg W gb ga most vs f n lost) (hk : Kp n₀ Bn W.drew.drew w2) (hgb : gb < n₀) (hga : ga < n₀) : Rg w2 gb ga most vs f n lost :=
  ⟨(hk.1.block gb hgb).trans h.box, (hk.1.block ga hga).trans h.row, h.len, h.m1, h.m2, h.fl, h.nl, h.ll⟩
set_option maxRecDepth 100000 in
set_option maxHeartbeats 2000000 in
theorem all1 (m : Nat) (hm : 1 ≤ m) (l Bn n₀ gb ga most f n lost : Nat) (vs : List (Bool × Int)) (hgb : gb < n₀) (hga : ga < n₀) (J Jx : List (Bool × Int) → World → Prop)
    (hY : ∀ pre x W, J pre W → pre.length < n → YieldAt Fence.wide (m - 1) Try.prog l #[enc x] W fun e W' =>
      (e = .returned (.bool true) ∧ J (pre ++ [x]) W' ∧ Kp n₀ Bn W W') ∨ (e = .returned (.bool false) ∧ Jx (pre ++ [x]) W'))
    (W : World) (hBn : W.heap[Bn]? = some (.cells #[.pointer (some ⟨gb, 0, none⟩)] 44 (0, 0))) (hR : Rg W gb ga most vs f n lost) (hs : n₀ ≤ W.heap.size) (hJw : ∀ pre A, J pre A → J pre A.drew) (h0 : J [] W) :
    CallsIn Fence.wide m Try.prog 69 #[.func (.yield l) #[] #[], .pointer (some ⟨Bn, 0, none⟩)] W fun e W' => (∃ v, e = .returned v) ∧
      ((∃ ys, ys = waits vs f most n ∧ J ys W') ∨ (∃ pre, (∃ k, k ≤ n ∧ pre = waits vs f most k) ∧ Jx pre W')) := by
  refine callsIn_of_wp Try.func69 rfl trivial ?_ rfl
  simp only [Try.ntmps69, List.size_toArray, List.length_cons, List.length_nil, Nat.reduceAdd, Nat.reduceSub, Array.replicate_succ, Array.replicate_zero, List.push_toArray, List.append_toArray, List.nil_append, List.cons_append]
  have cb : W.cell? ⟨Bn, 0, none⟩ = some (.pointer (some ⟨gb, 0, none⟩)) := blk_cell hBn 0
  obtain ⟨c0, c1, c2, c3, hfb, hfa⟩ := hR.cells
  gi_wp2
  clear cb c0 c1 c2 c3 hfb hfa
  gi_loopw [8] (fun i wr => ∃ k : Nat, k ≤ n ∧ i = .int .i64 k ∧ J (waits vs f most k) wr ∧ Rg wr gb ga most vs f n lost ∧ wr.heap[Bn]? = some (.cells #[.pointer (some ⟨gb, 0, none⟩)] 44 (0, 0)) ∧ n₀ ≤ wr.heap.size)
    (fun i _ => n - (intOf i).toNat)
  case atStart => exact ⟨0, Nat.zero_le _, rfl, h0, hR, hBn, hs⟩
  case round =>
    obtain ⟨k, hk, rfl, hJs, hRr, hBr, hsr⟩ := hrel
    by_cases hlt : k < n
    · have cb : wr.cell? ⟨Bn, 0, none⟩ = some (.pointer (some ⟨gb, 0, none⟩)) := blk_cell hBr 0
      obtain ⟨c0, c1, c2, c3, hfb, hfa⟩ := hRr.cells
      have hkm : (f + k) % most < most := lt_mod _ hRr.m1
      have hk64 : k ≤ 64 := by have := hRr.nl; have := hRr.m2; omega
      obtain ⟨q, hq⟩ : ∃ q, (f + k) % most = q := ⟨_, rfl⟩
      rw [hq] at hkm
      have hRd := hRr.step (below_drew (below_drew (Below.refl wr.heap.size wr)))
      obtain ⟨cq0, cq1⟩ := hRr.cell hkm
      obtain ⟨⟨yb, yz⟩, hy0⟩ : ∃ y, vs.getD q (false, 0) = y := ⟨_, rfl⟩
      rw [hy0] at cq0 cq1
      simp only at cq0 cq1
      obtain ⟨fn, tmps, assign, body, hy, hRy⟩ := hY _ (yb, yz) wr.drew.drew (hJw _ _ (hJw _ _ hJs)) (by rw [waits, upto_length]; exact hlt)
      dsimp only [enc] at hy
      have hplace : Calls Try.prog 54 #[.pointer (some ⟨gb, 0, none⟩), .int .i64 (k : Int)] wr.drew fun e w' => e = .returned (.int .i64 (q : Int)) ∧ w' = wr.drew.drew := hq ▸ placeX (hRr.step (below_drew (Below.refl wr.heap.size wr))) k hk64
      gi_wp2
      gi_region_with (first
        | ((first | refine ⟨trivial, ?_⟩ | skip); gi_at_call 54; refine (callsIn_wide.2 hplace).mono ?_; rintro e w3 ⟨rfl, rfl⟩)
        | (refine hRy.mono ?_; rintro e W3 hcase; obtain ⟨bb, rfl, hc⟩ : ∃ bb, e = .returned (.bool bb) ∧ (bb = true ∧ J (waits vs f most k ++ [(yb, yz)]) W3 ∧ Kp n₀ Bn wr.drew.drew W3 ∨ bb = false ∧ Jx (waits vs f most k ++ [(yb, yz)]) W3) := (by rcases hcase with ⟨h1, h2, h3⟩ | ⟨h1, h2⟩; exact ⟨true, h1, Or.inl ⟨rfl, h2, h3⟩⟩; exact ⟨false, h1, Or.inr ⟨rfl, h2⟩⟩))
        | fail)
      all_goals clear hcase
      all_goals rcases hc with ⟨rfl, hJ3, hk3⟩ | ⟨rfl, hJx3⟩
      all_goals have hw1 : waits vs f most k ++ [(yb, yz)] = waits vs f most (k + 1) := by rw [waits, waits, upto_succ, hq, hy0]
      all_goals first | rw [hw1] at hJ3 | rw [hw1] at hJx3
      all_goals first
        | (gi_wp2
           go_roundw
           case rel => exact ⟨k + 1, by omega, by simp, hJ3, hRr.step2 hk3 hgb hga, hk3.2 _ hBr, Nat.le_trans hsr hk3.1.size⟩
           case measure => simp [intOf]; omega)
        | (gi_wp2
           refine bodyPost_ret (results_none rfl _ _ _) rfl ?_
           exact ⟨⟨_, rfl⟩, .inr ⟨_, ⟨k + 1, by omega, rfl⟩, hJx3⟩⟩)
    · obtain rfl : k = n := by omega
      gi_wp2
      go_end0
      exact ⟨⟨_, rfl⟩, .inl ⟨_, rfl, hJs⟩⟩

set_option maxRecDepth 100000 in
set_option maxHeartbeats 1000000 in
theorem all_in (m gb : Nat) (w : World) :
    CallsIn Fence.wide m Try.prog 55 #[.pointer (some ⟨gb, 0, none⟩)] w fun e w' => e = .returned (.func (.func 69) #[] #[.pointer (some ⟨w.heap.size, 0, none⟩)]) ∧ w' = w.alloc (.cells #[.pointer (some ⟨gb, 0, none⟩)] 44) := by
  refine callsIn_of_wp Try.func55 rfl trivial ?_ rfl
  simp only [Try.ntmps55, List.size_toArray, List.length_cons, List.length_nil, Nat.reduceAdd, Nat.reduceSub, Array.replicate_succ, Array.replicate_zero, List.push_toArray, List.append_toArray, List.nil_append, List.cons_append]
  gi_wp2
  go_ret
  exact ⟨rfl, rfl⟩
theorem grown_drew (w : World) (row : Option Nat) : w.grownBy w.drew row := ⟨rfl, rfl, rfl, Nat.le_refl _, fun _ _ _ => rfl⟩

theorem all_stops (m : Nat) (hm : 1 ≤ m) (Bn n₀ gb ga most f n lost : Nat) (vs : List (Bool × Int)) (hgb : gb < n₀) (hga : ga < n₀) (w : World) (hBw : Bn < w.heap.size) (hn₀ : n₀ ≤ w.heap.size)
    (hBn : w.heap[Bn]? = some (.cells #[.pointer (some ⟨gb, 0, none⟩)] 44 (0, 0))) (hR : Rg w gb ga most vs f n lost) :
    SeqStopsK Fence.wide m Try.prog 69 #[.pointer (some ⟨Bn, 0, none⟩)] (fun x : (Bool × Int) => #[enc x]) (Kp n₀ Bn) (fun ys => ys = waits vs f most n) (fun pre => ∃ k, k ≤ n ∧ pre = waits vs f most k) n w := fun l J Jx W hW hJ hJx hY h0 =>
  all1 m hm l Bn n₀ gb ga most f n lost vs hgb hga J Jx hY W ((hW.block Bn hBw).trans hBn) ⟨(hW.block gb (by omega)).trans hR.box, (hW.block ga (by omega)).trans hR.row, hR.len, hR.m1, hR.m2, hR.fl, hR.nl, hR.ll⟩ (Nat.le_trans hn₀ hW.size)
    (fun pre A hA => hJ pre A A.drew none hA (grown_drew A none) (fun r e => by cases e)) h0

theorem cell_two_new (w : World) (a b : Value) (t : TypeId) : ∀ j u, [a, b][j]? = some u → (w.alloc (.cells #[a, b] t)).cell? ((⟨w.heap.size, 0, none⟩ : Addr).add j) = some u := by
  intro j u h
  have hn := blk_new w (.cells #[a, b] t)
  match j, h with
  | 0, h => exact (blk_cell hn 0).trans (by simpa using h)
  | 1, h => exact (blk_cell hn 1).trans (by simpa using h)
theorem info_E : (Try.prog.info? 29).map (fun i => (i.zero, i.size, i.bytes)) = some (some (Value.agg #[.bool false, .int .i64 0]), 2, 16) := by kernel_rfl

set_option maxRecDepth 100000 in
set_option maxHeartbeats 2000000 in
theorem list_in (m : Nat) (hm : 3 ≤ m) {gb ga most f n lost : Nat} {vs : List (Bool × Int)} {w : World} (hR : Rg w gb ga most vs f n lost) :
    CallsIn Fence.wide m Try.prog 31 #[.pointer (some ⟨gb, 0, none⟩)] w fun e W' => ∃ v, e = .returned v ∧ W'.ownsRow w.heap.size 29 2 v n (flat (waits vs f most n)) ∧ Below w.heap.size w W' := by
  have h1 : 1 ≤ m := by omega
  have hgb : gb < w.heap.size := blk_lt hR.box
  have hga : ga < w.heap.size := blk_lt hR.row
  have hn64 : n ≤ 64 := by have := hR.nl; have := hR.m2; omega
  obtain ⟨i0, hi, hz0, hz1, hz2⟩ := info_parts info_E
  refine callsIn_of_wp_marks Try.func31 rfl trivial ?_ rfl
  simp only [Try.ntmps31, List.size_toArray, List.length_cons, List.length_nil, Nat.reduceAdd, Nat.reduceSub, Array.replicate_succ, Array.replicate_zero, List.push_toArray, List.append_toArray, List.nil_append, List.cons_append]
  gi_wp2_with ((first | refine ⟨trivial, ?_⟩ | skip); gi_at_call 55; refine (all_in (m - 1) gb _).mono ?_; rintro e w' ⟨rfl, rfl⟩)
  have bO := Boxed.new w 22 (.slice none 0 0)
  have bN := Boxed.new (w.alloc (.cells #[.slice none 0 0] 22)) 44 (.pointer (some ⟨gb, 0, none⟩))
  rw [World.size_alloc] at bN
  have hB0 : Below w.heap.size w ((w.alloc (.cells #[.slice none 0 0] 22)).alloc (.cells #[.pointer (some ⟨gb, 0, none⟩)] 44)) := ((Below.refl _ w).alloc (Nat.le_refl _) _).alloc (by simp) _
  have hsz : ((w.alloc (.cells #[.slice none 0 0] 22)).alloc (.cells #[.pointer (some ⟨gb, 0, none⟩)] 44)).heap.size = w.heap.size + 2 := by simp
  have bO2 := bO.alloc (.cells #[.pointer (some ⟨gb, 0, none⟩)] 44)
  have hR0 := hR.step hB0
  obtain ⟨W0, hW0⟩ : ∃ W0, ((w.alloc (.cells #[.slice none 0 0] 22)).alloc (.cells #[.pointer (some ⟨gb, 0, none⟩)] 44)) = W0 := ⟨_, rfl⟩
  rw [hW0] at bO2 bN hB0 hsz hR0 ⊢
  clear hW0 bO
  refine wpIn_rangeFunc_ownH rfl h1 (gf := 69) (lb := #[.pointer (some ⟨w.heap.size + 1, 0, none⟩)]) rfl trivial (enters_of Try.func69 (by kernel_rfl) rfl)
    (all_stops (m - 1) (by omega) (w.heap.size + 1) w.heap.size gb ga most f n lost vs hgb hga W0 (by omega) (by omega) bN hR0) Kp.trans (Kp.book (by omega) (by omega)) (Below.refl _ _) (fun _ => rfl)
    (fun (pre : List (Bool × Int)) W => ((∃ v, Boxed W w.heap.size 22 v ∧ W.ownsRow w.heap.size 29 2 v pre.length (flat pre) ∧ True) ∧ Boxed W (w.heap.size + 1) 44 (.pointer (some ⟨gb, 0, none⟩))) ∧ Below w.heap.size w W)
    (fun _ _ _ => False)
    (OwnFrom.and (OwnFrom.and (Own.from (holdsRow_own w.heap.size w.heap.size 22 29 2 (fun pre : List (Bool × Int) => pre.length) (fun pre : List (Bool × Int) => flat pre) (fun (pre : List (Bool × Int)) v => True)) _) (fun s A B row hs hg hr => hs.kept hg (fun e => by obtain ⟨_, o, ho, hc⟩ := hr _ e.symm; rw [show A.heap[w.heap.size + 1]? = _ from hs] at ho; cases ho; cases hc))) (ownFrom_below (Nat.le_refl _) (by omega)))
    (fun _ _ _ _ _ hs _ _ => hs)
    ⟨⟨⟨_, bO2, World.ownsRow_nil _ _ _ _, trivial⟩, bN⟩, hB0⟩
    (fun x a' W => ∃ Bx, w.heap.size + 1 < Bx ∧ W.heap[Bx]? = some (.cells #[.bool x.1, .int .i64 x.2] 29 (0, 0)) ∧ a' = { tmps := #[.pointer (some ⟨gb, 0, none⟩), undef, .slice none 0 0, .pointer (some ⟨w.heap.size, 0, none⟩), .pointer (some ⟨Bx, 0, none⟩), .pointer (some ⟨gb, 0, none⟩), .func (.func 69) #[] #[.pointer (some ⟨w.heap.size + 1, 0, none⟩)], enc x, undef, undef, undef, undef, undef], defers := [] })
    (fun x a' _ X Y row hs hg hr => by
      obtain ⟨Bx, h1, h2, h3⟩ := hs
      refine ⟨Bx, h1, (hg.block Bx (Array.getElem?_eq_some_iff.1 h2).1 (fun e => ?_)).trans h2, h3⟩
      obtain ⟨_, o, ho, hc⟩ := hr Bx e.symm
      rw [h2] at ho
      cases ho
      cases hc)
    ?assign ?body ?done ?stop
  case assign =>
    rintro l pre x W K ⟨⟨⟨v, hv, hrow, _⟩, hbN⟩, hB⟩ hK
    dsimp only [enc]
    gi_wp2
    exact hK _ _ ((KeepsOthers.alloc _ _).from _) ⟨(Below.refl _ W).alloc hB.size _, fun o ho => blk_alloc ho _⟩ ⟨⟨⟨v, hv.alloc _, hrow.alloc _, trivial⟩, hbN.alloc _⟩, hB.alloc hB.size _⟩ ⟨W.heap.size, hbN.lt, blk_new W _, rfl⟩
  case body =>
    rintro l pre x a' W hl ⟨r, hr⟩ ⟨⟨⟨v, hv, hrow, _⟩, hbN⟩, hB⟩ ⟨Bx, hBx, bX, rfl⟩ hlt
    have hc := hv.cell
    have k0 : W.cell? ⟨Bx, 0, none⟩ = some (.bool x.1) := blk_cell bX 0
    have k1 : W.cell? ⟨Bx, 1, none⟩ = some (.int .i64 x.2) := blk_cell bX 1
    gi_wp2_with (gi_at_builtin; refine wpListIn_append_own _ rfl _ _ 22 rfl w.heap.size 29 i0 (Value.agg #[.bool false, .int .i64 0]) 2 16 Try.underlying22 hi hz0 hz1 hz2 rfl (by decide) _ _ _ rfl (hrow.alloc _) ⟨W.heap.size, 0, none⟩ 1 1 [.bool x.1, .int .i64 x.2] rfl rfl (cell_two_new _ _ _ _) (by simp [Value.oneCell']) (Nat.le_trans (show pre.length + 1 ≤ 65 by omega) (by decide)) (by omega) (by have := hB.size; simp; omega) ?_; intro v' w1 hown' hgrow _; obtain ⟨g', cap', rfl⟩ := ownsRow_succ hown'; obtain ⟨hv1, hv2, hr2, hk2, hb2⟩ := hv.appended (by decide) hrow hB.size (Nat.le_refl _) hown' hgrow; have hc1 := hv1.cell; have hf1 := hv1.frozen; have hbN1 : Boxed w1 (w.heap.size + 1) 44 _ := (hbN.alloc _).kept hgrow (hbN.not_row (by decide) hrow))
    have hbN2 : Boxed (w1.setCell ⟨w.heap.size, 0, none⟩ (.slice (some ⟨g', 0, none⟩) (pre.length + 1) cap')) (w.heap.size + 1) 44 (.pointer (some ⟨gb, 0, none⟩)) := hbN1.kept (grownBy_setCell' w1 w.heap.size _) (by simp)
    exact ⟨hk2.from _, ⟨hb2, fun o ho => by rw [show W.heap[w.heap.size + 1]? = _ from hbN] at ho; cases ho; exact hbN2⟩, ⟨⟨_, hv2, by simpa [flat] using hr2, trivial⟩, hbN2⟩, hB.trans hb2⟩
  case done =>
    rintro D ys W hD rfl ⟨⟨⟨v, hv, hrow, _⟩, hbN⟩, hB⟩ hK
    have hc := hv.cell
    gi_wp2
    refine ⟨by simp, .inl ⟨_, _, rfl, run_takeDeferred hK, ?_⟩⟩
    refine ⟨_, results_tmp rfl _ _ _, v, rfl, ?_, hB.trans (belowK_b (w := w) (Nat.le_refl _) W D _ _ (by omega) hK rfl rfl)⟩
    have hq := ownsRow_putObj hrow (.deferred none) hK rfl
    rw [show (waits vs f most n).length = n from by rw [waits, upto_length]] at hq
    exact hq
  case stop =>
    rintro D c pre W _ _ h _
    exact h.elim

theorem list {gb ga most f n lost : Nat} {vs : List (Bool × Int)} {w : World} (hR : Rg w gb ga most vs f n lost) :
    Calls Try.prog 31 #[.pointer (some ⟨gb, 0, none⟩)] w fun e W' => ∃ v, e = .returned v ∧ W'.ownsRow w.heap.size 29 2 v n (flat (waits vs f most n)) ∧ Below w.heap.size w W' :=
  (callsIn_wide (n := 3)).1 (list_in 3 (Nat.le_refl _) hR)
end Go.Proofs.Ytcmofedfbjpjlaa.RingListAct
