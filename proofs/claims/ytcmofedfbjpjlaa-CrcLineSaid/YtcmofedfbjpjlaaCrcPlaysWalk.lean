import Derived.Test.YtcmofedfbjpjlaaCrcRight
import Derived.Outline
/- The laws CrcPlays and CrcNames, walked. -/
set_option linter.unusedVariables false
set_option linter.unusedSimpArgs false
namespace Go.Proofs.Ytcmofedfbjpjlaa.CrcPlaysWalk
open Go.RowKit Go.Proofs.YtcmofedfbjpjlaaW.PrintWords Go.Proofs.Ytcmofedfbjpjlaa.Nats Go.Proofs.Ytcmofedfbjpjlaa.CrcPlain Go.Proofs.Ytcmofedfbjpjlaa.CrcCalls Go.Proofs.Ytcmofedfbjpjlaa.CrcRight Go.Proofs.Ytcmofedfbjpjlaa.PNamed Go.Proofs.Ytcmofedfbjpjlaa.POf

theorem bthen {w w1 w2 : World} (h : Below w.heap.size w w1) (k : Below w1.heap.size w1 w2) : Below w.heap.size w w2 := h.trans (k.mono h.size)
theorem ofC (w p f : Int) (t : Bool) (last : Int) (W : World) : Calls Try.prog 40 #[.agg #[.int .i64 w, .int .u32 p, .int .u32 f, .bool t, .int .u32 last]] W fun e w' => e = .returned (.agg #[.int .i64 w, .int .u32 p, .int .u32 f, .bool t, .int .u32 last]) ∧ Below W.heap.size W w' :=
  lancetlaw04_Of.calls w p f t last w p f t last W rfl

theorem boxed {W : World} {gb : Nat} {w p f : Int} {t : Bool} {last : Int} {ty : TypeId} (h : W.heap[gb]? = some (.cells #[.int .i64 w, .int .u32 p, .int .u32 f, .bool t, .int .u32 last] ty (0, 0))) :
    W.cell? ⟨gb, 0, none⟩ = some (.int .i64 w) ∧ W.cell? ⟨gb, 1, none⟩ = some (.int .u32 p) ∧ W.cell? ⟨gb, 2, none⟩ = some (.int .u32 f) ∧ W.cell? ⟨gb, 3, none⟩ = some (.bool t) ∧ W.cell? ⟨gb, 4, none⟩ = some (.int .u32 last) :=
  ⟨blk_cell h 0, blk_cell h 1, blk_cell h 2, blk_cell h 3, blk_cell h 4⟩

set_option maxRecDepth 100000 in
set_option maxHeartbeats 1000000 in
theorem long (w p f : Int) (t : Bool) (last : Int) (A : Option Addr) (n c : Nat) (h : 300 < n) (W : World) :
    Calls Try.prog 7 #[.agg #[.int .i64 w, .int .u32 p, .int .u32 f, .bool t, .int .u32 last], .slice A n c] W fun e w' => e = .returned (.bool true) ∧ Below W.heap.size W w' := by
  have t1 : decide ((n : Int) > 300) = true := by simp; omega
  go_enter Try.func7, Try.ntmps7
  go_wp2_with fail
  refine (awake04 _).mono ?_
  rintro e w1 ⟨rfl, hb⟩
  go_wp2_with fail
  refine (awake04 _).mono ?_
  rintro e w2 ⟨rfl, hb2⟩
  go_wp2
  go_ret
  exact ⟨rfl, bthen (bthen (below_alloc (Below.refl _ _) _) hb) hb2⟩

set_option maxRecDepth 100000 in
set_option maxHeartbeats 1000000 in
theorem within (w : Int) (p f : Nat) (t : Bool) (last : Nat) (hp4 : p < 4294967296) (hf4 : f < 4294967296) (hl4 : last < 4294967296) (A : Option Addr) (n c : Nat) (l : List Nat) (hn : l.length = n) (hb : ∀ x ∈ l, x < 256) (hc : n ≤ c) (hm : n ≤ 300) (W : World) (hC : Kd.C (Kd.int .u8) W A n (ints l)) :
    Calls Try.prog 7 #[.agg #[.int .i64 w, .int .u32 (p : Int), .int .u32 (f : Int), .bool t, .int .u32 (last : Int)], .slice A n c] W fun e w' => e = .returned (.bool true) ∧ Below W.heap.size W w' := by
  have t1 : decide ((n : Int) > 300) = false := by simp; omega
  have Hn := Lib.hid hn
  clear hn
  by_cases hR : Right w p f last
  · obtain ⟨s, hs1, hs2, _⟩ := sum_right w p f last t l hp4 hf4 hl4 hR hb A n c Hn.out (by omega) hc
    have hr := right_calls w p f last t hp4 hf4 hl4
    rw [decide_eq_true hR] at hr
    go_enter Try.func7, Try.ntmps7
    go_wp2_with fail
    refine (awake04 _).mono ?_
    rintro e w1 ⟨rfl, hb1⟩
    have hk1 := blk_below (blk_new W _) hb1
    have hB1 := bthen (below_alloc (Below.refl W.heap.size W) _) hb1
    obtain ⟨r0, r1, r2, r3, r4⟩ := boxed hk1
    clear hb1
    go_wp2_with fail
    refine (ofC _ _ _ _ _ _).mono ?_
    rintro e w2 ⟨rfl, hb2⟩
    have hk2 := blk_below hk1 hb2
    have hB2 := bthen hB1 hb2
    clear hk1 hB1 r0 r1 r2 r3 r4 hb2
    go_wp2_with fail
    refine (hs1 _ (Kd.C_below hC hB2)).mono ?_
    rintro e w3 ⟨rfl, hb3⟩
    have hk3 := blk_below hk2 hb3
    have hB3 := bthen hB2 hb3
    clear hk2 hB2 hb3
    obtain ⟨r0, r1, r2, r3, r4⟩ := boxed hk3
    go_wp2_with fail
    refine (hr _).mono ?_
    rintro e w4 ⟨rfl, hb4⟩
    have hk4 := blk_below hk3 hb4
    have hB4 := bthen hB3 hb4
    clear hk3 hB3 hb4 r0 r1 r2 r3 r4
    obtain ⟨r0, r1, r2, r3, r4⟩ := boxed hk4
    go_wp2_with fail
    refine (hs2 _ (Kd.C_below hC hB4)).mono ?_
    rintro e w5 ⟨rfl, hb5⟩
    go_wp2
    go_ret
    exact ⟨by simp, bthen hB4 hb5⟩
  · have hs1 := sum_bad w p f last t l hp4 hf4 hl4 hR A n c
    have hr := right_calls w p f last t hp4 hf4 hl4
    rw [decide_eq_false hR] at hr
    go_enter Try.func7, Try.ntmps7
    go_wp2_with fail
    refine (awake04 _).mono ?_
    rintro e w1 ⟨rfl, hb1⟩
    have hk1 := blk_below (blk_new W _) hb1
    have hB1 := bthen (below_alloc (Below.refl W.heap.size W) _) hb1
    obtain ⟨r0, r1, r2, r3, r4⟩ := boxed hk1
    clear hb1
    go_wp2_with fail
    refine (ofC _ _ _ _ _ _).mono ?_
    rintro e w2 ⟨rfl, hb2⟩
    have hk2 := blk_below hk1 hb2
    have hB2 := bthen hB1 hb2
    clear hk1 hB1 r0 r1 r2 r3 r4 hb2
    go_wp2_with fail
    refine (hs1 _ Hn.out hc (Kd.C_below hC hB2)).mono ?_
    rintro e w3 ⟨rfl, hb3⟩
    have hk3 := blk_below hk2 hb3
    have hB3 := bthen hB2 hb3
    clear hk2 hB2 hb3
    obtain ⟨r0, r1, r2, r3, r4⟩ := boxed hk3
    go_wp2_with fail
    refine (hr _).mono ?_
    rintro e w4 ⟨rfl, hb4⟩
    go_wp2
    go_ret
    exact ⟨by simp, bthen hB3 hb4⟩

theorem walk (w : Int) (p f : Nat) (t : Bool) (last : Nat) (hp4 : p < 4294967296) (hf4 : f < 4294967296) (hl4 : last < 4294967296) (A : Option Addr) (n c : Nat) (l : List Nat) (hn : l.length = n) (hb : ∀ x ∈ l, x < 256) (hc : n ≤ c) (W : World) (hC : Kd.C (Kd.int .u8) W A n (ints l)) :
    Calls Try.prog 7 #[.agg #[.int .i64 w, .int .u32 (p : Int), .int .u32 (f : Int), .bool t, .int .u32 (last : Int)], .slice A n c] W fun e w' => e = .returned (.bool true) ∧ Below W.heap.size W w' := by
  by_cases h : 300 < n
  · exact long w p f t last A n c h W
  · exact within w p f t last hp4 hf4 hl4 A n c l hn hb hc (by omega) W hC
end Go.Proofs.Ytcmofedfbjpjlaa.CrcPlaysWalk
