import Derived.RangeFuncNested
import Derived.RangeFuncBound
import Derived.RangeFuncCalls
import Derived.RangeFuncLeaves
import Derived.RangeFuncBox
import Derived.Shelf.Abstract
import Derived.Shelf.RegionOpen
import Derived.WalkKit
import Derived.OwnWalkIn
import Derived.TacticsInMore
import Derived.LoopNIn
import Derived.LoopIn
import Derived.Maps.AppendAt
import Derived.Test.YtcmofedfbjpjlaaRingInt
/- A ring's List, walked: a range over its iterator. -/
set_option linter.unusedVariables false
set_option linter.unusedSimpArgs false
namespace Go.Proofs.Ytcmofedfbjpjlaa.RingListInt
open Go.RowKit Go.Shelf Go.Proofs.YtcmofedfbjpjlaaW.PrintWords Go.Proofs.Ytcmofedfbjpjlaa.Nats Go.Proofs.Ytcmofedfbjpjlaa.RingInt
attribute [local go_sem] Oper.semAt_some

/-- What a round keeps: what lay below n₀; the iterator's box. -/
def Kp (n₀ Bn : Nat) (W W' : World) : Prop := Below n₀ W W' ∧ ∀ o, W.heap[Bn]? = some o → W'.heap[Bn]? = some o
theorem Kp.refl (n₀ Bn : Nat) (W : World) : Kp n₀ Bn W W := ⟨Below.refl _ _, fun _ h => h⟩
theorem Kp.trans {n₀ Bn : Nat} {A B C : World} (h : Kp n₀ Bn A B) (k : Kp n₀ Bn B C) : Kp n₀ Bn A C := ⟨h.1.trans k.1, fun o ho => k.2 o (h.2 o ho)⟩
theorem Kp.book {n₀ Bn : Nat} {w : World} (hn : n₀ ≤ w.heap.size) (hB : Bn < w.heap.size) (W : World) (l : Nat) (o o' : Obj) (hl : w.heap.size ≤ l) (h : W.heap[l]? = some o) (h1 : o.isCells = false) (h2 : o.isWalk = false) : Kp n₀ Bn W (W.putObj l o') :=
  ⟨belowK_b hn W l o o' hl h h1 h2, fun q hq => (World.putObj_heap_other (by omega)).trans hq⟩
/-- What has come when k rounds are over. -/
def upto {α : Type} (f : Nat → α) (k : Nat) : List α := (List.range k).map f
theorem upto_succ {α : Type} (f : Nat → α) (k : Nat) : upto f (k + 1) = upto f k ++ [f k] := by simp [upto, List.range_succ]
theorem upto_length {α : Type} (f : Nat → α) (k : Nat) : (upto f k).length = k := by simp [upto]
/-- What waits, the oldest first. -/
def waits (vs : List Int) (f most n : Nat) : List Int := upto (fun i => vs.getD ((f + i) % most) 0) n

theorem _root_.Go.Proofs.Ytcmofedfbjpjlaa.RingInt.Rg.step2 {n₀ Bn : Nat} {W w2 : World} {gb ga most f n lost : Nat} {vs : List Int} (h : Rg W gb ga most vs f n lost) (hk : Kp n₀ Bn W.drew.drew w2) (hgb : gb < n₀) (hga : ga < n₀) : Rg w2 gb ga most vs f n lost :=
  ⟨(hk.1.block gb hgb).trans h.box, (hk.1.block ga hga).trans h.row, h.len, h.m1, h.m2, h.fl, h.nl, h.ll⟩
set_option maxRecDepth 100000 in
set_option maxHeartbeats 2000000 in
theorem all1 (m : Nat) (hm : 1 ≤ m) (l Bn n₀ gb ga most f n lost : Nat) (vs : List Int) (hgb : gb < n₀) (hga : ga < n₀) (J Jx : List Int → World → Prop)
    (hY : ∀ pre x W, J pre W → pre.length < n → YieldAt Fence.wide (m - 1) Try.prog l #[(Value.int .i64) x] W fun e W' =>
      (e = .returned (.bool true) ∧ J (pre ++ [x]) W' ∧ Kp n₀ Bn W W') ∨ (e = .returned (.bool false) ∧ Jx (pre ++ [x]) W'))
    (W : World) (hBn : W.heap[Bn]? = some (.cells #[.pointer (some ⟨gb, 0, none⟩)] 24 (0, 0))) (hR : Rg W gb ga most vs f n lost) (hs : n₀ ≤ W.heap.size) (hJw : ∀ pre A, J pre A → J pre A.drew) (h0 : J [] W) :
    CallsIn Fence.wide m Try.prog 68 #[.func (.yield l) #[] #[], .pointer (some ⟨Bn, 0, none⟩)] W fun e W' => (∃ v, e = .returned v) ∧
      ((∃ ys, ys = waits vs f most n ∧ J ys W') ∨ (∃ pre, (∃ k, k ≤ n ∧ pre = waits vs f most k) ∧ Jx pre W')) := by
  refine callsIn_of_wp Try.func68 rfl trivial ?_ rfl
  simp only [Try.ntmps68, List.size_toArray, List.length_cons, List.length_nil, Nat.reduceAdd, Nat.reduceSub, Array.replicate_succ, Array.replicate_zero, List.push_toArray, List.append_toArray, List.nil_append, List.cons_append]
  have cb : W.cell? ⟨Bn, 0, none⟩ = some (.pointer (some ⟨gb, 0, none⟩)) := blk_cell hBn 0
  obtain ⟨c0, c1, c2, c3, hfb, hfa⟩ := hR.cells
  gi_wp2
  clear cb c0 c1 c2 c3 hfb hfa
  gi_loopw [8] (fun i wr => ∃ k : Nat, k ≤ n ∧ i = .int .i64 k ∧ J (waits vs f most k) wr ∧ Rg wr gb ga most vs f n lost ∧ wr.heap[Bn]? = some (.cells #[.pointer (some ⟨gb, 0, none⟩)] 24 (0, 0)) ∧ n₀ ≤ wr.heap.size)
    (fun i _ => n - (intOf i).toNat)
  case atStart => exact ⟨0, Nat.zero_le _, rfl, h0, hR, hBn, hs⟩
  case round =>
    obtain ⟨k, hk, rfl, hJs, hRr, hBr, hsr⟩ := hrel
    by_cases hlt : k < n
    · have cb : wr.cell? ⟨Bn, 0, none⟩ = some (.pointer (some ⟨gb, 0, none⟩)) := blk_cell hBr 0
      obtain ⟨c0, c1, c2, c3, hfb, hfa⟩ := hRr.cells
      have hkm : (f + k) % most < most := lt_mod _ hRr.m1
      have hk64 : k ≤ 64 := by have := hRr.nl; have := hRr.m2; omega
      obtain ⟨q, hq⟩ : ∃ q, (f + k) % most = q := ⟨_, rfl⟩
      rw [hq] at hkm
      have hRd := hRr.step (below_drew (below_drew (Below.refl wr.heap.size wr)))
      have cq : wr.cell? ⟨ga, q, none⟩ = some ((Value.int .i64) (vs.getD q 0)) := hRr.cell hkm
      obtain ⟨y, hy0⟩ : ∃ y, vs.getD q 0 = y := ⟨_, rfl⟩
      rw [hy0] at cq
      obtain ⟨fn, tmps, assign, body, hy, hRy⟩ := hY _ y wr.drew.drew (hJw _ _ (hJw _ _ hJs)) (by rw [waits, upto_length]; exact hlt)
      have hplace : Calls Try.prog 52 #[.pointer (some ⟨gb, 0, none⟩), .int .i64 (k : Int)] wr.drew fun e w' => e = .returned (.int .i64 (q : Int)) ∧ w' = wr.drew.drew := hq ▸ placeX (hRr.step (below_drew (Below.refl wr.heap.size wr))) k hk64
      gi_wp2
      gi_region_with (first
        | ((first | refine ⟨trivial, ?_⟩ | skip); gi_at_call 52; refine (callsIn_wide.2 hplace).mono ?_; rintro e w3 ⟨rfl, rfl⟩)
        | (refine hRy.mono ?_; rintro e W3 hcase; obtain ⟨bb, rfl, hc⟩ : ∃ bb, e = .returned (.bool bb) ∧ (bb = true ∧ J (waits vs f most k ++ [y]) W3 ∧ Kp n₀ Bn wr.drew.drew W3 ∨ bb = false ∧ Jx (waits vs f most k ++ [y]) W3) := (by rcases hcase with ⟨h1, h2, h3⟩ | ⟨h1, h2⟩; exact ⟨true, h1, Or.inl ⟨rfl, h2, h3⟩⟩; exact ⟨false, h1, Or.inr ⟨rfl, h2⟩⟩))
        | fail)
      all_goals clear hcase
      all_goals rcases hc with ⟨rfl, hJ3, hk3⟩ | ⟨rfl, hJx3⟩
      all_goals have hw1 : waits vs f most k ++ [y] = waits vs f most (k + 1) := by rw [waits, waits, upto_succ, hq, hy0]
      all_goals first | rw [hw1] at hJ3 | rw [hw1] at hJx3
      all_goals first
        | (gi_wp2
           go_roundw
           case rel => exact ⟨k + 1, by omega, by simp, hJ3, hRr.step2 hk3 hgb hga, hk3.2 _ hBr, Nat.le_trans hsr hk3.1.size⟩
           case measure => simp [intOf]; omega)
        | (gi_wp2
           refine bodyPost_ret (results_none rfl _ _ _) rfl ?_
           exact ⟨⟨_, rfl⟩, .inr ⟨_, ⟨k + 1, by omega, rfl⟩, hJx3⟩⟩)
    · obtain rfl : k = n := by omega
      gi_wp2
      go_end0
      exact ⟨⟨_, rfl⟩, .inl ⟨_, rfl, hJs⟩⟩

set_option maxRecDepth 100000 in
set_option maxHeartbeats 1000000 in
theorem all_in (m gb : Nat) (w : World) :
    CallsIn Fence.wide m Try.prog 53 #[.pointer (some ⟨gb, 0, none⟩)] w fun e w' => e = .returned (.func (.func 68) #[] #[.pointer (some ⟨w.heap.size, 0, none⟩)]) ∧ w' = w.alloc (.cells #[.pointer (some ⟨gb, 0, none⟩)] 24) := by
  refine callsIn_of_wp Try.func53 rfl trivial ?_ rfl
  simp only [Try.ntmps53, List.size_toArray, List.length_cons, List.length_nil, Nat.reduceAdd, Nat.reduceSub, Array.replicate_succ, Array.replicate_zero, List.push_toArray, List.append_toArray, List.nil_append, List.cons_append]
  gi_wp2
  go_ret
  exact ⟨rfl, rfl⟩
theorem grown_drew (w : World) (row : Option Nat) : w.grownBy w.drew row := ⟨rfl, rfl, rfl, Nat.le_refl _, fun _ _ _ => rfl⟩

theorem all_stops (m : Nat) (hm : 1 ≤ m) (Bn n₀ gb ga most f n lost : Nat) (vs : List Int) (hgb : gb < n₀) (hga : ga < n₀) (w : World) (hBw : Bn < w.heap.size) (hn₀ : n₀ ≤ w.heap.size)
    (hBn : w.heap[Bn]? = some (.cells #[.pointer (some ⟨gb, 0, none⟩)] 24 (0, 0))) (hR : Rg w gb ga most vs f n lost) :
    SeqStopsK Fence.wide m Try.prog 68 #[.pointer (some ⟨Bn, 0, none⟩)] (fun x : Int => #[(Value.int .i64) x]) (Kp n₀ Bn) (fun ys => ys = waits vs f most n) (fun pre => ∃ k, k ≤ n ∧ pre = waits vs f most k) n w := fun l J Jx W hW hJ hJx hY h0 =>
  all1 m hm l Bn n₀ gb ga most f n lost vs hgb hga J Jx hY W ((hW.block Bn hBw).trans hBn) ⟨(hW.block gb (by omega)).trans hR.box, (hW.block ga (by omega)).trans hR.row, hR.len, hR.m1, hR.m2, hR.fl, hR.nl, hR.ll⟩ (Nat.le_trans hn₀ hW.size)
    (fun pre A hA => hJ pre A A.drew none hA (grown_drew A none) (fun r e => by cases e)) h0

theorem info_E : (Try.prog.info? 3).map (fun i => (i.zero, i.size, i.bytes)) = some (some (Value.int .i64 0), 1, 8) := by kernel_rfl

set_option maxRecDepth 100000 in
set_option maxHeartbeats 2000000 in
theorem list_in (m : Nat) (hm : 3 ≤ m) {gb ga most f n lost : Nat} {vs : List Int} {w : World} (hR : Rg w gb ga most vs f n lost) :
    CallsIn Fence.wide m Try.prog 20 #[.pointer (some ⟨gb, 0, none⟩)] w fun e W' => ∃ v, e = .returned v ∧ W'.ownsRow w.heap.size 3 1 v n ((waits vs f most n).map (Value.int .i64)) ∧ Below w.heap.size w W' := by
  have h1 : 1 ≤ m := by omega
  have hgb : gb < w.heap.size := blk_lt hR.box
  have hga : ga < w.heap.size := blk_lt hR.row
  have hn64 : n ≤ 64 := by have := hR.nl; have := hR.m2; omega
  obtain ⟨i0, hi, hz0, hz1, hz2⟩ := info_parts info_E
  refine callsIn_of_wp_marks Try.func20 rfl trivial ?_ rfl
  simp only [Try.ntmps20, List.size_toArray, List.length_cons, List.length_nil, Nat.reduceAdd, Nat.reduceSub, Array.replicate_succ, Array.replicate_zero, List.push_toArray, List.append_toArray, List.nil_append, List.cons_append]
  gi_wp2_with ((first | refine ⟨trivial, ?_⟩ | skip); gi_at_call 53; refine (all_in (m - 1) gb _).mono ?_; rintro e w' ⟨rfl, rfl⟩)
  have bO := Boxed.new w 33 (.slice none 0 0)
  have bN := Boxed.new (w.alloc (.cells #[.slice none 0 0] 33)) 24 (.pointer (some ⟨gb, 0, none⟩))
  rw [World.size_alloc] at bN
  have hB0 : Below w.heap.size w ((w.alloc (.cells #[.slice none 0 0] 33)).alloc (.cells #[.pointer (some ⟨gb, 0, none⟩)] 24)) := ((Below.refl _ w).alloc (Nat.le_refl _) _).alloc (by simp) _
  refine wpIn_rangeFunc_ownG rfl h1 (gf := 68) (lb := #[.pointer (some ⟨w.heap.size + 1, 0, none⟩)]) rfl trivial (enters_of Try.func68 (by kernel_rfl) rfl)
    (all_stops (m - 1) (by omega) (w.heap.size + 1) w.heap.size gb ga most f n lost vs hgb hga _ (by simp) (by simp; omega) bN (hR.step hB0)) Kp.trans (Kp.book (by simp; omega) (by simp)) (Below.refl _ _) (fun _ => rfl)
    (fun (pre : List Int) W => ((∃ v, Boxed W w.heap.size 33 v ∧ W.ownsRow w.heap.size 3 1 v pre.length (pre.map (Value.int .i64)) ∧ True) ∧ Boxed W (w.heap.size + 1) 24 (.pointer (some ⟨gb, 0, none⟩))) ∧ Below w.heap.size w W)
    (fun _ _ _ => False)
    (OwnFrom.and (OwnFrom.and (Own.from (holdsRow_own w.heap.size w.heap.size 33 3 1 (fun pre : List Int => pre.length) (fun pre : List Int => pre.map (Value.int .i64)) (fun (pre : List Int) v => True)) _) (fun s A B row hs hg hr => hs.kept hg (fun e => by obtain ⟨_, o, ho, hc⟩ := hr _ e.symm; rw [show A.heap[w.heap.size + 1]? = _ from hs] at ho; cases ho; cases hc))) (ownFrom_below (Nat.le_refl _) (by simp; omega)))
    (fun _ _ _ _ _ hs _ _ => hs)
    ⟨⟨⟨_, bO.alloc _, World.ownsRow_nil _ _ _ _, trivial⟩, bN⟩, hB0⟩
    (fun x => { tmps := #[.pointer (some ⟨gb, 0, none⟩), undef, .slice none 0 0, .pointer (some ⟨w.heap.size, 0, none⟩), (Value.int .i64) x, .pointer (some ⟨gb, 0, none⟩), .func (.func 68) #[] #[.pointer (some ⟨w.heap.size + 1, 0, none⟩)], (Value.int .i64) x, undef, undef, undef, undef, undef], defers := [] }) ?assign ?body ?done ?stop
  case assign =>
    intro l x W K hK
    gi_wp2
    exact hK
  case body =>
    rintro l pre x W ⟨⟨⟨v, hv, hrow, _⟩, hbN⟩, hB⟩ hlt
    have hc := hv.cell
    gi_wp2_with (gi_at_builtin; refine wpListIn_append_own _ rfl _ _ 33 rfl w.heap.size 3 i0 (Value.int .i64 0) 1 8 Try.underlying33 hi hz0 hz1 hz2 rfl (by decide) _ _ _ rfl (hrow.alloc _) ⟨W.heap.size, 0, none⟩ 1 1 [(Value.int .i64) x] rfl rfl (cell_one_new _ _ _) (by simp [Value.oneCell']) (Nat.le_trans (show pre.length + 1 ≤ 65 by omega) (by decide)) (by omega) (by have := hB.size; simp; omega) ?_; intro v' w1 hown' hgrow _; obtain ⟨g', cap', rfl⟩ := ownsRow_succ hown'; obtain ⟨hv1, hv2, hr2, hk2, hb2⟩ := hv.appended (by decide) hrow hB.size (Nat.le_refl _) hown' hgrow; have hc1 := hv1.cell; have hf1 := hv1.frozen; have hbN1 : Boxed w1 (w.heap.size + 1) 24 _ := (hbN.alloc _).kept hgrow (hbN.not_row (by decide) hrow))
    have hbN2 : Boxed (w1.setCell ⟨w.heap.size, 0, none⟩ (.slice (some ⟨g', 0, none⟩) (pre.length + 1) cap')) (w.heap.size + 1) 24 (.pointer (some ⟨gb, 0, none⟩)) := hbN1.kept (grownBy_setCell' w1 w.heap.size _) (by simp)
    exact ⟨hk2.from _, ⟨hb2, fun o ho => by rw [show W.heap[w.heap.size + 1]? = _ from hbN] at ho; cases ho; exact hbN2⟩, ⟨⟨_, hv2, by simpa using hr2, trivial⟩, hbN2⟩, hB.trans hb2⟩
  case done =>
    rintro D ys W hD rfl ⟨⟨⟨v, hv, hrow, _⟩, hbN⟩, hB⟩ hK
    have hc := hv.cell
    gi_wp2
    refine ⟨by simp, .inl ⟨_, _, rfl, run_takeDeferred hK, ?_⟩⟩
    refine ⟨_, results_tmp rfl _ _ _, v, rfl, ?_, hB.trans (belowK_b (w := w) (Nat.le_refl _) W D _ _ (by simp at hD; omega) hK rfl rfl)⟩
    have hq := ownsRow_putObj hrow (.deferred none) hK rfl
    rw [waits, upto_length] at hq
    exact hq
  case stop =>
    rintro D c pre W _ _ h _
    exact h.elim

theorem list {gb ga most f n lost : Nat} {vs : List Int} {w : World} (hR : Rg w gb ga most vs f n lost) :
    Calls Try.prog 20 #[.pointer (some ⟨gb, 0, none⟩)] w fun e W' => ∃ v, e = .returned v ∧ W'.ownsRow w.heap.size 3 1 v n ((waits vs f most n).map (Value.int .i64)) ∧ Below w.heap.size w W' :=
  (callsIn_wide (n := 3)).1 (list_in 3 (Nat.le_refl _) hR)
end Go.Proofs.Ytcmofedfbjpjlaa.RingListInt
