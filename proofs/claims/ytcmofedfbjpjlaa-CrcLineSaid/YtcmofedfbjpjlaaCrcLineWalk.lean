import Derived.Test.YtcmofedfbjpjlaaCrcPlaysWalk
import Derived.Test.YtcmofedfbjpjlaaWMore
import Derived.Deep.RegionHeld3
import Derived.BigRegion
import Derived.Laws.BitsAllLaws
/- The law CrcLine, walked. -/
set_option linter.unusedVariables false
set_option linter.unusedSimpArgs false
namespace Go.Proofs.Ytcmofedfbjpjlaa.CrcLineWalk
open Go.RowKit Go.Proofs.YtcmofedfbjpjlaaW.PrintWords Go.Proofs.YtcmofedfbjpjlaaW.PrintLast Go.Proofs.YtcmofedfbjpjlaaW.PrintMore Go.Proofs.Ytcmofedfbjpjlaa.Nats Go.Proofs.Ytcmofedfbjpjlaa.CrcPlain Go.Proofs.Ytcmofedfbjpjlaa.CrcCalls Go.Proofs.Ytcmofedfbjpjlaa.CrcRight Go.Proofs.Ytcmofedfbjpjlaa.CrcPlaysWalk

/-- The least of three lengths. -/
def least (a b c : Nat) : Nat := min (min a b) c
theorem mn_least (a b c : Nat) : mn (mn (a : Int) (b : Int)) (c : Int) = ((least a b c : Nat) : Int) := by
  unfold mn least; split <;> split <;> omega
theorem min_run (a b c m : Nat) (h : least a b c = m) (w : World) : (Builtin.min_ #[3, 3, 3] 3 #[.int .i64 (a : Int), .int .i64 (b : Int), .int .i64 (c : Int)]).run Try.prog w = .ok (.int .i64 (m : Int)) w := by
  have hm := mn_least a b c
  rw [h] at hm
  unfold mn at hm
  rw [min_three, min2_int]
  simp only [Sem.run_bind, Sem.run_pure, Result.andThen_ok, min2_int]
  rw [hm]
/-- The bytes of three texts, made one. -/
def three (m : Nat) (l1 l2 l3 : List Nat) : List Nat := List.zipWith (· ^^^ ·) (List.zipWith (· ^^^ ·) (l1.take m) (l2.take m)) (l3.take m)
theorem three_length {m : Nat} {l1 l2 l3 : List Nat} (h1 : m ≤ l1.length) (h2 : m ≤ l2.length) (h3 : m ≤ l3.length) : (three m l1 l2 l3).length = m := by
  simp [three]; omega
theorem three_get {m : Nat} {l1 l2 l3 : List Nat} (h1 : m ≤ l1.length) (h2 : m ≤ l2.length) (h3 : m ≤ l3.length) (k : Nat) (hk : k < m) : (three m l1 l2 l3)[k]'(by rw [three_length h1 h2 h3]; exact hk) = l1[k] ^^^ l2[k] ^^^ l3[k] := by
  simp [three]
theorem three_lt {m : Nat} {l1 l2 l3 : List Nat} (b1 : ∀ x ∈ l1, x < 256) (b2 : ∀ x ∈ l2, x < 256) (b3 : ∀ x ∈ l3, x < 256) (h1 : m ≤ l1.length) (h2 : m ≤ l2.length) (h3 : m ≤ l3.length) : ∀ x ∈ three m l1 l2 l3, x < 256 := by
  intro x hx
  obtain ⟨k, hk, rfl⟩ := List.getElem_of_mem hx
  rw [three_length h1 h2 h3] at hk
  rw [three_get h1 h2 h3 k hk]
  exact Nat.xor_lt_two_pow (n := 8) (Nat.xor_lt_two_pow (n := 8) (b1 _ (List.getElem_mem _)) (b2 _ (List.getElem_mem _))) (b3 _ (List.getElem_mem _))
/-- Up to the k-th byte. -/
def upTo (z : List Nat) (k : Nat) : List Nat := z.take k ++ List.replicate (z.length - k) 0
theorem upTo_zero (z : List Nat) : upTo z 0 = List.replicate z.length 0 := by simp [upTo]
theorem upTo_all (z : List Nat) : upTo z z.length = z := by simp [upTo]
theorem upTo_length (z : List Nat) (k : Nat) (h : k ≤ z.length) : (upTo z k).length = z.length := by simp [upTo]; omega
theorem upTo_succ (z : List Nat) (k : Nat) (h : k < z.length) : upTo z (k + 1) = (upTo z k).set k z[k] := by
  have hl : (z.take k).length = k := by rw [List.length_take]; omega
  obtain ⟨d, hd⟩ : ∃ d, z.length - k = d + 1 := ⟨z.length - k - 1, by omega⟩
  have hd2 : z.length - (k + 1) = d := by omega
  unfold upTo
  rw [hd, hd2, List.replicate_succ, List.set_append_right _ _ (by rw [hl]; exact Nat.le_refl _), hl, Nat.sub_self, List.set_cons_zero, List.take_succ_eq_append_getElem h, List.append_assoc, List.singleton_append]

set_option maxRecDepth 100000 in
set_option maxHeartbeats 1000000 in
theorem long (w : Int) (p f : Nat) (t : Bool) (last : Nat) (hp4 : p < 4294967296) (hf4 : f < 4294967296) (hl4 : last < 4294967296) (A1 A2 A3 : Option Addr) (n1 n2 n3 c1 c2 c3 m : Nat) (hm : least n1 n2 n3 = m) (h : 300 < m ∨ ¬ Right w p f last) (W : World) :
    Calls Try.prog 10 #[.agg #[.int .i64 w, .int .u32 (p : Int), .int .u32 (f : Int), .bool t, .int .u32 (last : Int)], .slice A1 n1 c1, .slice A2 n2 c2, .slice A3 n3 c3] W fun e w' => e = .returned (.bool true) ∧ Below W.heap.size W w' := by
  have hmin := min_run n1 n2 n3 m hm
  clear hm
  by_cases h3 : 300 < m
  · have t1 : decide ((m : Int) > 300) = true := by simp; omega
    go_enter Try.func10, Try.ntmps10
    go_wp2_with fail
    refine (awake04 _).mono ?_
    rintro e w1 ⟨rfl, hb⟩
    go_wp2_with fail
    refine (awake04 _).mono ?_
    rintro e w2 ⟨rfl, hb2⟩
    go_wp2
    go_ret
    exact ⟨rfl, bthen (bthen (below_alloc (Below.refl _ _) _) hb) hb2⟩
  · have t1 : decide ((m : Int) > 300) = false := by simp; omega
    have hr := right_calls w p f last t hp4 hf4 hl4
    rw [decide_eq_false (h.resolve_left h3)] at hr
    go_enter Try.func10, Try.ntmps10
    go_wp2_with fail
    refine (awake04 _).mono ?_
    rintro e w1 ⟨rfl, hb1⟩
    have hk1 := blk_below (blk_new W _) hb1
    have hB1 := bthen (below_alloc (Below.refl W.heap.size W) _) hb1
    obtain ⟨r0, r1, r2, r3, r4⟩ := boxed hk1
    clear hb1
    go_wp2_with fail
    refine (hr _).mono ?_
    rintro e w2 ⟨rfl, hb2⟩
    go_wp2_with fail
    refine (awake04 _).mono ?_
    rintro e w3 ⟨rfl, hb3⟩
    go_wp2
    go_ret
    exact ⟨rfl, bthen (bthen hB1 hb2) hb3⟩

/-- What stands while the four sums are taken: the boxed kind, its cells, the bytes made one; nothing that lay before has turned. -/
abbrev Held (W : World) (gb : Nat) (w p f : Int) (t : Bool) (last : Int) (A : Option Addr) (m : Nat) (z : List Nat) (wx : World) : Prop :=
  wx.heap[gb]? = some (.cells #[.int .i64 w, .int .u32 p, .int .u32 f, .bool t, .int .u32 last] 62 (0, 0)) ∧ Below W.heap.size W wx ∧ Kd.C (Kd.int .u8) wx A m (ints z) ∧
  wx.cell? ⟨gb, 0, none⟩ = some (.int .i64 w) ∧ wx.cell? ⟨gb, 1, none⟩ = some (.int .u32 p) ∧ wx.cell? ⟨gb, 2, none⟩ = some (.int .u32 f) ∧ wx.cell? ⟨gb, 3, none⟩ = some (.bool t) ∧ wx.cell? ⟨gb, 4, none⟩ = some (.int .u32 last)
theorem held_of {W wx : World} {gb : Nat} {w p f : Int} {t : Bool} {last : Int} {A : Option Addr} {m : Nat} {z : List Nat} (h1 : wx.heap[gb]? = some (.cells #[.int .i64 w, .int .u32 p, .int .u32 f, .bool t, .int .u32 last] 62 (0, 0))) (h2 : Below W.heap.size W wx) (h3 : Kd.C (Kd.int .u8) wx A m (ints z)) : Held W gb w p f t last A m z wx :=
  ⟨h1, h2, h3, blk_cell h1 0, blk_cell h1 1, blk_cell h1 2, blk_cell h1 3, blk_cell h1 4⟩
theorem held_kept {W wx wy : World} {gb : Nat} {w p f : Int} {t : Bool} {last : Int} {A : Option Addr} {m : Nat} {z : List Nat} (h : Held W gb w p f t last A m z wx) (hb : Below wx.heap.size wx wy) : Held W gb w p f t last A m z wy :=
  held_of (blk_below h.1 hb) (bthen h.2.1 hb) (Kd.C_below h.2.2.1 hb)
theorem C_cut {wx : World} {A : Option Addr} {n m : Nat} {l : List Nat} (hn : l.length = n) (hm : m ≤ n) (h : Kd.C (Kd.int .u8) wx A n (ints l)) : Kd.C (Kd.int .u8) wx A m (ints (l.take m)) := by
  subst hn
  have h1 := Kd.C_take (m := m) (xs := ints l) (k := Kd.int .u8) (A := A) (w := wx) (by rw [ints_length]; exact h) (by rw [ints_length]; exact hm)
  have e : (ints l).take m = ints (l.take m) := by simp [ints, List.map_take]
  rw [e, ints_length, List.length_take, Nat.min_eq_left hm] at h1
  exact h1

/-- Between two rounds: so many bytes are made one. -/
def Lp (W : World) (gb : Nat) (ks : Array Value) (A : Option Addr) (m c : Nat) (z : List Nat) (i : Value) (wr : World) : Prop :=
  ∃ k : Nat, k ≤ m ∧ i = .int .i64 (k : Int) ∧ Kd.R (Kd.int .u8) 5 wr W.heap.size (fun _ => True) (.slice A m c) (ints (upTo z k)) ∧ wr.heap[gb]? = some (.cells ks 62 (0, 0)) ∧ Below W.heap.size W wr

set_option maxRecDepth 100000 in
set_option maxHeartbeats 4000000 in
theorem within (w : Int) (p f : Nat) (t : Bool) (last : Nat) (hp4 : p < 4294967296) (hf4 : f < 4294967296) (hl4 : last < 4294967296) (A1 A2 A3 : Option Addr) (n1 n2 n3 c1 c2 c3 m : Nat) (hm : least n1 n2 n3 = m) (hm3 : m ≤ 300) (hR : Right w p f last)
    (l1 l2 l3 : List Nat) (e1 : l1.length = n1) (e2 : l2.length = n2) (e3 : l3.length = n3) (b1 : ∀ x ∈ l1, x < 256) (b2 : ∀ x ∈ l2, x < 256) (b3 : ∀ x ∈ l3, x < 256) (hc1 : n1 ≤ c1) (hc2 : n2 ≤ c2) (hc3 : n3 ≤ c3) (W : World)
    (hC1 : Kd.C (Kd.int .u8) W A1 n1 (ints l1)) (hC2 : Kd.C (Kd.int .u8) W A2 n2 (ints l2)) (hC3 : Kd.C (Kd.int .u8) W A3 n3 (ints l3)) :
    Calls Try.prog 10 #[.agg #[.int .i64 w, .int .u32 (p : Int), .int .u32 (f : Int), .bool t, .int .u32 (last : Int)], .slice A1 n1 c1, .slice A2 n2 c2, .slice A3 n3 c3] W fun e w' => e = .returned (.bool true) ∧ Below W.heap.size W w' := by
  have hmin := min_run n1 n2 n3 m hm
  have hm1 : m ≤ n1 := by unfold least at hm; omega
  have hm2 : m ≤ n2 := by unfold least at hm; omega
  have hmm : m ≤ n3 := by unfold least at hm; omega
  have t1 : decide ((m : Int) > 300) = false := by simp; omega
  have d1 : (m : Int) ≤ (c1 : Int) := by omega
  have d2 : (m : Int) ≤ (c2 : Int) := by omega
  have d3 : (m : Int) ≤ (c3 : Int) := by omega
  clear hm
  have E1 := Lib.hid e1
  have E2 := Lib.hid e2
  have E3 := Lib.hid e3
  clear e1 e2 e3
  obtain ⟨z, hz⟩ : ∃ z, z = three m l1 l2 l3 := ⟨_, rfl⟩
  have hzl : z.length = m := by rw [hz]; exact three_length (by rw [E1.out]; exact hm1) (by rw [E2.out]; exact hm2) (by rw [E3.out]; exact hmm)
  have hzb : ∀ x ∈ z, x < 256 := by rw [hz]; exact three_lt b1 b2 b3 (by rw [E1.out]; exact hm1) (by rw [E2.out]; exact hm2) (by rw [E3.out]; exact hmm)
  have bt1 : ∀ x ∈ l1.take m, x < 256 := fun x hx => b1 x (List.mem_of_mem_take hx)
  have bt2 : ∀ x ∈ l2.take m, x < 256 := fun x hx => b2 x (List.mem_of_mem_take hx)
  have bt3 : ∀ x ∈ l3.take m, x < 256 := fun x hx => b3 x (List.mem_of_mem_take hx)
  have f1 : (l1.take m).length = m := by rw [List.length_take, E1.out]; omega
  have f2 : (l2.take m).length = m := by rw [List.length_take, E2.out]; omega
  have f3 : (l3.take m).length = m := by rw [List.length_take, E3.out]; omega
  obtain ⟨s1, hs1, _, g1⟩ := sum_right w p f last t (l1.take m) hp4 hf4 hl4 hR bt1 A1 m c1 f1 (by omega) (by omega)
  obtain ⟨s2, hs2, _, g2⟩ := sum_right w p f last t (l2.take m) hp4 hf4 hl4 hR bt2 A2 m c2 f2 (by omega) (by omega)
  obtain ⟨s3, hs3, _, g3⟩ := sum_right w p f last t (l3.take m) hp4 hf4 hl4 hR bt3 A3 m c3 f3 (by omega) (by omega)
  have hs4 : ∀ A c, m ≤ c → ∀ W, Kd.C (Kd.int .u8) W A m (ints z) → Calls Try.prog 39 #[.agg #[.int .i64 w, .int .u32 (p : Int), .int .u32 (f : Int), .bool t, .int .u32 (last : Int)], .slice A m c] W fun e w' => e = .returned (.tuple #[.int .u32 ((s1 ^^^ s2 ^^^ s3 : Nat) : Int), .int .i64 0]) ∧ Below W.heap.size W w' := by
    intro A c hc
    obtain ⟨s4, hs4, _, g4⟩ := sum_right w p f last t z hp4 hf4 hl4 hR hzb A m c hzl (by omega) hc
    have : s4 = s1 ^^^ s2 ^^^ s3 := by
      rw [g4, g1, g2, g3, hz]
      exact (sum_line _ _ _ _ _ _ _ _ (by rw [f1, f2]) (by rw [f2, f3])).symm
    rw [← this]
    exact hs4
  have k1 : s1 < 4294967296 := by rw [g1]; exact right_lt t hp4 hf4 hl4 hR bt1
  have k2 : s2 < 4294967296 := by rw [g2]; exact right_lt t hp4 hf4 hl4 hR bt2
  have k3 : s3 < 4294967296 := by rw [g3]; exact right_lt t hp4 hf4 hl4 hR bt3
  have x1 := Go.u32_xor_nat s1 s2 k1 k2
  obtain ⟨s12, h12⟩ : ∃ s12, s12 = s1 ^^^ s2 := ⟨_, rfl⟩
  rw [← h12] at x1 hs4
  have k12 : s12 < 4294967296 := by rw [h12]; exact Nat.xor_lt_two_pow (n := 32) k1 k2
  have x2 := Go.u32_xor_nat s12 s3 k12 k3
  obtain ⟨s4, h4⟩ : ∃ s4, s4 = s12 ^^^ s3 := ⟨_, rfl⟩
  rw [← h4] at x2 hs4
  have Hz := Lib.hid hz
  have Hzl := Lib.hid hzl
  clear hz hzl f1 f2 f3 g1 g2 g3 h12 h4 k1 k2 k3 k12
  have hr := right_calls w p f last t hp4 hf4 hl4
  rw [decide_eq_true hR] at hr
  have hinfo : (Try.prog.info? 5).map (fun i => (i.zero, i.size, i.bytes)) = some (some (.int .u8 0), 1, 1) := by kernel_rfl
  go_enter Try.func10, Try.ntmps10
  go_wp2_with fail
  refine (awake04 _).mono ?_
  rintro e w1 ⟨rfl, hb1⟩
  have hk1 := blk_below (blk_new W _) hb1
  have hB1 := bthen (below_alloc (Below.refl W.heap.size W) _) hb1
  obtain ⟨r0, r1, r2, r3, r4⟩ := boxed hk1
  clear hb1
  go_wp2_with fail
  refine (hr _).mono ?_
  rintro e w2 ⟨rfl, hb2⟩
  have hk2 := blk_below hk1 hb2
  have hB2 := bthen hB1 hb2
  clear hk1 hB1 hb2 r0 r1 r2 r3 r4
  go_wp2_with (first
    | ((with_reducible refine gate_dst (N := 40) rfl ?_); refine Kd.R_make (Kd.int .u8) _ 5 rfl (N := 40) rfl 54 _ _ rfl (m : Int) rfl rfl Try.underlying54 (.int .u8 0) 1 hinfo rfl (by decide) (by omega) 0 (ok := fun _ => True) (okp := fun _ => True) rfl (fun _ hk => hk) trivial (by omega) (by rw [Int.toNat_natCast]; omega) (Below.refl _ _) (Nat.le_refl _) ?_; intro v10 w3 hR3 hb3 hg3 hn3; rw [Int.toNat_natCast] at hR3; obtain ⟨A10, c10, e10⟩ := Kd.R_slice hR3; rw [List.length_replicate] at e10; subst e10)
    | fail)
  go_loopw [11] (Lp W W.heap.size #[.int .i64 w, .int .u32 (p : Int), .int .u32 (f : Int), .bool t, .int .u32 (last : Int)] A10 m c10 z) (fun i _ => m - (intOf i).toNat)
  case atStart =>
    refine ⟨0, Nat.zero_le _, rfl, ?_, blk_below hk2 hb3, bthen hB2 hb3⟩
    rw [upTo_zero, Hzl.out]
    have : ints (List.replicate m 0) = List.replicate m 0 := by simp [ints]
    rw [this]
    exact Kd.R_lower hR3 hB2.size
  case round =>
    clear hR3 hb3 hg3 hn3 hk2 hB2
    obtain ⟨k, hk, rfl, hR4, hk4, hB4⟩ := hrel
    by_cases hlt : k < m
    · have hzk : k < z.length := by rw [Hzl.out]; exact hlt
      have hl1 : k < l1.length := by rw [E1.out]; omega
      have hl2 : k < l2.length := by rw [E2.out]; omega
      have hl3 : k < l3.length := by rw [E3.out]; omega
      obtain ⟨v1, hv1⟩ : ∃ v, v = l1[k] := ⟨_, rfl⟩
      obtain ⟨v2, hv2⟩ : ∃ v, v = l2[k] := ⟨_, rfl⟩
      obtain ⟨v3, hv3⟩ : ∃ v, v = l3[k] := ⟨_, rfl⟩
      have V1 := Lib.hid hv1
      have V2 := Lib.hid hv2
      have V3 := Lib.hid hv3
      clear hv1 hv2 hv3
      have q1 : v1 < 256 := by rw [V1.out]; exact b1 _ (List.getElem_mem _)
      have q2 : v2 < 256 := by rw [V2.out]; exact b2 _ (List.getElem_mem _)
      have q3 : v3 < 256 := by rw [V3.out]; exact b3 _ (List.getElem_mem _)
      obtain ⟨v12, h12⟩ : ∃ v, v = v1 ^^^ v2 := ⟨_, rfl⟩
      obtain ⟨v4, h4⟩ : ∃ v, v = v12 ^^^ v3 := ⟨_, rfl⟩
      have y1 : bits .xor .u8 (v1 : Int) (v2 : Int) = (v12 : Int) := by rw [h12]; exact Go.u8_xor_nat v1 v2 q1 q2
      have q12 : v12 < 256 := by rw [h12]; exact Nat.xor_lt_two_pow (n := 8) q1 q2
      have y2 : bits .xor .u8 (v12 : Int) (v3 : Int) = (v4 : Int) := by rw [h4]; exact Go.u8_xor_nat v12 v3 q12 q3
      have hup : ints (upTo z (k + 1)) = (ints (upTo z k)).set k (v4 : Int) := by
        rw [upTo_succ z k hzk]
        have e : z[k] = v4 := by
          rw [h4, h12, V1.out, V2.out, V3.out]
          have := three_get (l1 := l1) (l2 := l2) (l3 := l3) (by rw [E1.out]; exact hm1) (by rw [E2.out]; exact hm2) (by rw [E3.out]; exact hmm) k hlt
          rw [← this]
          simp only [Hz.out]
        rw [e]
        simp [ints, List.map_set]
      have HUP := Lib.hid hup
      clear hup h12 h4 q12
      have look : ∀ {A : Option Addr} {n : Nat} {l : List Nat} {v : Nat}, Kd.C (Kd.int .u8) W A n (ints l) → k < n → (hkl : k < l.length) → v = l[k] → ∃ ad, A = some ad ∧ wr.cell? (ad.add k) = some (.int .u8 (v : Int)) := by
        intro A n l v hC hkn hkl hv
        obtain ⟨ad, rfl, hcl⟩ := Kd.at_int (Kd.C_below hC hB4) (k : Int) (by omega) (by omega)
        rw [Int.toNat_natCast, show rd (ints l) (k : Int) = (v : Int) from by rw [hv]; simp [rd, ints, List.getD_eq_getElem?_getD, hkl]] at hcl
        exact ⟨ad, rfl, hcl⟩
      obtain ⟨ad1, rfl, hcl1⟩ := look hC1 (by omega) hl1 V1.out
      obtain ⟨ad2, rfl, hcl2⟩ := look hC2 (by omega) hl2 V2.out
      obtain ⟨ad3, rfl, hcl3⟩ := look hC3 (by omega) hl3 V3.out
      clear look
      obtain ⟨g, c', e10, hg⟩ := Kd.R_form hR4 (by rw [ints_length, upTo_length _ _ (by omega)]; omega)
      injection e10 with e10a e10b e10c
      subst e10a
      clear e10b e10c hg
      obtain ⟨hcl, hfr⟩ := Kd.R_celln 0 hR4 (k : Int) (by omega) (by omega)
      rw [Int.toNat_natCast] at hcl hfr
      have hk1n : (k : Int) < (n1 : Int) := by omega
      have hk2n : (k : Int) < (n2 : Int) := by omega
      have hk3n : (k : Int) < (n3 : Int) := by omega
      go_wp2_with fail
      go_region
      go_wp2
      go_roundw
      case rel => exact ⟨k + 1, by omega, by go_num, by rw [HUP.out]; have h := Kd.R_putn hR4 (k : Int) (v4 : Int); rw [Int.toNat_natCast] at h; exact Kd.R_below h (below_drew (Below.refl _ _)), by
        obtain ⟨inner, ho⟩ := Kd.R_own hR4
        obtain ⟨cells, hc⟩ := own_typed ho g (by simp [Value.ownBlock])
        exact blk_below (w := wr.setCell ⟨g, k, none⟩ (.int .u8 (v4 : Int))) ((Below.heap_setCell wr ⟨g, k, none⟩ _ _ (blk_ne hk4 hc (by decide))).trans hk4) (below_drew (Below.refl _ _)), by
        obtain ⟨inner, ho⟩ := Kd.R_own hR4
        exact (hB4.setCell (p := ⟨g, k, none⟩) (own_base ho g (by simp [Value.ownBlock])) _).drew⟩
      case measure => simp [intOf]; omega
    · have hkm : k = m := by omega
      have hzz : upTo z k = z := by rw [hkm, ← Hzl.out]; exact upTo_all z
      rw [hzz] at hR4
      clear hzz hkm
      have hC10 := (Kd.R_reads' hR4).2.2
      have hc10 := (Kd.R_reads' hR4).2.1
      rw [ints_length, Hzl.out] at hC10
      have hH : Held W W.heap.size w (p : Int) (f : Int) t (last : Int) A10 m z wr := held_of hk4 hB4 hC10
      clear hR4 hk4 hB4 hC10
      go_wp2_with fail
      refine start_ (n := 11) (S := fun wx => Held W W.heap.size w (p : Int) (f : Int) t (last : Int) A10 m z wx) (ds := []) #[false, false, false, false, false, false, false, false, false, false, false] (by kernel_rfl) rfl rfl (held_kept hH (below_drew (Below.refl _ _))) (fun hHeld => ?_)
      refine take_ (i := 0) (N := some 64) (v := ?_) (a' := ?_) #[true, false, false, false, false, false, false, false, false, false, false] rfl rfl (by kernel_rfl) (fun _ _ _ h => h) (Or.inl ⟨by rfl, ?_⟩) hHeld ?_ ?_
      rotate_left
      · rintro w' ⟨_, _, _, s0, s1, s2, s3, s4⟩
        go_simp
        with_reducible rfl
      rotate_left
      · simp only [Act.put, List.setIfInBounds_toArray, List.set_cons_zero, List.set_cons_succ, i64_w, i32_w]
        rfl
      refine pure_ (i := 2) (N := some 66) (v := ?_) (a' := ?_) #[true, false, true, false, false, false, false, false, false, false, false] rfl rfl (by kernel_rfl) (fun _ _ _ h => h) (Or.inl ⟨by rfl, ?_⟩) ?_ ?_
      rotate_left
      · intro w'
        go_simp
        try with_reducible rfl
      rotate_left
      · simp only [Act.put, List.setIfInBounds_toArray, List.set_cons_zero, List.set_cons_succ, i64_w, i32_w]
        rfl
      refine pure_ (i := 3) (N := some 67) (v := ?_) (a' := ?_) #[true, false, true, true, false, false, false, false, false, false, false] rfl rfl (by kernel_rfl) (fun _ _ _ h => h) (Or.inl ⟨by rfl, ?_⟩) ?_ ?_
      rotate_left
      · intro w'
        go_simp
        try with_reducible rfl
      rotate_left
      · simp only [Act.put, List.setIfInBounds_toArray, List.set_cons_zero, List.set_cons_succ, i64_w, i32_w]
        rfl
      refine pure_ (i := 4) (N := some 68) (v := ?_) (a' := ?_) #[true, false, true, true, true, false, false, false, false, false, false] rfl rfl (by kernel_rfl) (fun _ _ _ h => h) (Or.inl ⟨by rfl, ?_⟩) ?_ ?_
      rotate_left
      · intro w'
        go_simp
        try with_reducible rfl
      rotate_left
      · simp only [Act.put, List.setIfInBounds_toArray, List.set_cons_zero, List.set_cons_succ, i64_w, i32_w]
        rfl
      refine one_ (i := 1) (N := some 65) #[true, true, true, true, true, false, false, false, false, false, false] rfl rfl (by kernel_rfl) (by decide) (fun K hK => ?_)
      refine goes_ Try.func40 (by kernel_rfl) rfl #[.agg #[.int .i64 w, .int .u32 (p : Int), .int .u32 (f : Int), .bool t, .int .u32 (last : Int)]] (by rfl) rfl rfl (by (try simp only [List.map_toArray, List.map_cons, List.map_nil]); first | done | rfl) ?_
      refine (ofC _ _ _ _ _ _).mono ?_
      rintro e w5 ⟨rfl, hb5⟩
      refine ⟨_, rfl, ?_⟩
      refine hK.out _ _ (held_kept hHeld hb5) (fun hHeld => ?_)
      clear hK K
      refine norm_ (a' := ?_) ?_ ?_
      rotate_left
      · show Act.put _ (some 65) _ = _
        simp only [Act.put, List.setIfInBounds_toArray, List.set_cons_zero, List.set_cons_succ, i64_w, i32_w]
        rfl
      refine one_ (i := 5) (N := some 69) #[true, true, true, true, true, true, false, false, false, false, false] rfl rfl (by kernel_rfl) (by decide) (fun K hK => ?_)
      refine goes_ Try.func39 (by kernel_rfl) rfl #[.agg #[.int .i64 w, .int .u32 (p : Int), .int .u32 (f : Int), .bool t, .int .u32 (last : Int)], .slice A1 m c1] (by rfl) rfl rfl (by (try simp only [List.map_toArray, List.map_cons, List.map_nil]); first | done | rfl) ?_
      refine (hs1 _ (C_cut E1.out hm1 (Kd.C_below hC1 hHeld.2.1))).mono ?_
      rintro e w6 ⟨rfl, hb6⟩
      refine ⟨_, rfl, ?_⟩
      refine hK.out _ _ (held_kept hHeld hb6) (fun hHeld => ?_)
      clear hK K
      refine norm_ (a' := ?_) ?_ ?_
      rotate_left
      · show Act.put _ (some 69) _ = _
        simp only [Act.put, List.setIfInBounds_toArray, List.set_cons_zero, List.set_cons_succ, i64_w, i32_w]
        rfl
      refine pure_ (i := 6) (N := some 63) (v := ?_) (a' := ?_) #[true, true, true, true, true, true, true, false, false, false, false] rfl rfl (by kernel_rfl) (fun _ _ _ h => h) (Or.inl ⟨by rfl, ?_⟩) ?_ ?_
      rotate_left
      · intro w'
        go_simp
        try with_reducible rfl
      rotate_left
      · simp only [Act.put, List.setIfInBounds_toArray, List.set_cons_zero, List.set_cons_succ, i64_w, i32_w]
        rfl
      refine pure_ (i := 7) (N := some 70) (v := ?_) (a' := ?_) #[true, true, true, true, true, true, true, true, false, false, false] rfl rfl (by kernel_rfl) (fun _ _ _ h => h) (Or.inl ⟨by rfl, ?_⟩) ?_ ?_
      rotate_left
      · intro w'
        go_simp
        try with_reducible rfl
      rotate_left
      · simp only [Act.put, List.setIfInBounds_toArray, List.set_cons_zero, List.set_cons_succ, i64_w, i32_w]
        rfl
      refine pure_ (i := 8) (N := some 71) (v := ?_) (a' := ?_) #[true, true, true, true, true, true, true, true, true, false, false] rfl rfl (by kernel_rfl) (fun _ _ _ h => h) (Or.inl ⟨by rfl, ?_⟩) ?_ ?_
      rotate_left
      · intro w'
        go_simp
        try with_reducible rfl
      rotate_left
      · simp only [Act.put, List.setIfInBounds_toArray, List.set_cons_zero, List.set_cons_succ, i64_w, i32_w]
        rfl
      refine pure_ (i := 9) (N := some 12) (v := ?_) (a' := ?_) #[true, true, true, true, true, true, true, true, true, true, false] rfl rfl (by kernel_rfl) (fun _ _ _ h => h) (Or.inl ⟨by rfl, ?_⟩) ?_ ?_
      rotate_left
      · intro w'
        go_simp
        try with_reducible rfl
      rotate_left
      · simp only [Act.put, List.setIfInBounds_toArray, List.set_cons_zero, List.set_cons_succ, i64_w, i32_w]
        rfl
      refine pure_ (i := 10) (N := some 13) (v := ?_) (a' := ?_) #[true, true, true, true, true, true, true, true, true, true, true] rfl rfl (by kernel_rfl) (fun _ _ _ h => h) (Or.inl ⟨by rfl, ?_⟩) ?_ ?_
      rotate_left
      · intro w'
        go_simp
        try with_reducible rfl
      rotate_left
      · simp only [Act.put, List.setIfInBounds_toArray, List.set_cons_zero, List.set_cons_succ, i64_w, i32_w]
        rfl
      refine done_ (by kernel_rfl) ?_
      clear hH
      have hH := hHeld
      clear hHeld
      go_wp2_with fail
      refine start_ (n := 11) (S := fun wx => Held W W.heap.size w (p : Int) (f : Int) t (last : Int) A10 m z wx) (ds := []) #[false, false, false, false, false, false, false, false, false, false, false] (by kernel_rfl) rfl rfl (held_kept hH (below_drew (Below.refl _ _))) (fun hHeld => ?_)
      refine take_ (i := 0) (N := some 73) (v := ?_) (a' := ?_) #[true, false, false, false, false, false, false, false, false, false, false] rfl rfl (by kernel_rfl) (fun _ _ _ h => h) (Or.inl ⟨by rfl, ?_⟩) hHeld ?_ ?_
      rotate_left
      · rintro w' ⟨_, _, _, s0, s1, s2, s3, s4⟩
        go_simp
        with_reducible rfl
      rotate_left
      · simp only [Act.put, List.setIfInBounds_toArray, List.set_cons_zero, List.set_cons_succ, i64_w, i32_w]
        rfl
      refine pure_ (i := 2) (N := some 75) (v := ?_) (a' := ?_) #[true, false, true, false, false, false, false, false, false, false, false] rfl rfl (by kernel_rfl) (fun _ _ _ h => h) (Or.inl ⟨by rfl, ?_⟩) ?_ ?_
      rotate_left
      · intro w'
        go_simp
        try with_reducible rfl
      rotate_left
      · simp only [Act.put, List.setIfInBounds_toArray, List.set_cons_zero, List.set_cons_succ, i64_w, i32_w]
        rfl
      refine pure_ (i := 3) (N := some 76) (v := ?_) (a' := ?_) #[true, false, true, true, false, false, false, false, false, false, false] rfl rfl (by kernel_rfl) (fun _ _ _ h => h) (Or.inl ⟨by rfl, ?_⟩) ?_ ?_
      rotate_left
      · intro w'
        go_simp
        try with_reducible rfl
      rotate_left
      · simp only [Act.put, List.setIfInBounds_toArray, List.set_cons_zero, List.set_cons_succ, i64_w, i32_w]
        rfl
      refine pure_ (i := 4) (N := some 77) (v := ?_) (a' := ?_) #[true, false, true, true, true, false, false, false, false, false, false] rfl rfl (by kernel_rfl) (fun _ _ _ h => h) (Or.inl ⟨by rfl, ?_⟩) ?_ ?_
      rotate_left
      · intro w'
        go_simp
        try with_reducible rfl
      rotate_left
      · simp only [Act.put, List.setIfInBounds_toArray, List.set_cons_zero, List.set_cons_succ, i64_w, i32_w]
        rfl
      refine one_ (i := 1) (N := some 74) #[true, true, true, true, true, false, false, false, false, false, false] rfl rfl (by kernel_rfl) (by decide) (fun K hK => ?_)
      refine goes_ Try.func40 (by kernel_rfl) rfl #[.agg #[.int .i64 w, .int .u32 (p : Int), .int .u32 (f : Int), .bool t, .int .u32 (last : Int)]] (by rfl) rfl rfl (by (try simp only [List.map_toArray, List.map_cons, List.map_nil]); first | done | rfl) ?_
      refine (ofC _ _ _ _ _ _).mono ?_
      rintro e w5 ⟨rfl, hb5⟩
      refine ⟨_, rfl, ?_⟩
      refine hK.out _ _ (held_kept hHeld hb5) (fun hHeld => ?_)
      clear hK K
      refine norm_ (a' := ?_) ?_ ?_
      rotate_left
      · show Act.put _ (some 74) _ = _
        simp only [Act.put, List.setIfInBounds_toArray, List.set_cons_zero, List.set_cons_succ, i64_w, i32_w]
        rfl
      refine one_ (i := 5) (N := some 78) #[true, true, true, true, true, true, false, false, false, false, false] rfl rfl (by kernel_rfl) (by decide) (fun K hK => ?_)
      refine goes_ Try.func39 (by kernel_rfl) rfl #[.agg #[.int .i64 w, .int .u32 (p : Int), .int .u32 (f : Int), .bool t, .int .u32 (last : Int)], .slice A2 m c2] (by rfl) rfl rfl (by (try simp only [List.map_toArray, List.map_cons, List.map_nil]); first | done | rfl) ?_
      refine (hs2 _ (C_cut E2.out hm2 (Kd.C_below hC2 hHeld.2.1))).mono ?_
      rintro e w6 ⟨rfl, hb6⟩
      refine ⟨_, rfl, ?_⟩
      refine hK.out _ _ (held_kept hHeld hb6) (fun hHeld => ?_)
      clear hK K
      refine norm_ (a' := ?_) ?_ ?_
      rotate_left
      · show Act.put _ (some 78) _ = _
        simp only [Act.put, List.setIfInBounds_toArray, List.set_cons_zero, List.set_cons_succ, i64_w, i32_w]
        rfl
      refine pure_ (i := 6) (N := some 72) (v := ?_) (a' := ?_) #[true, true, true, true, true, true, true, false, false, false, false] rfl rfl (by kernel_rfl) (fun _ _ _ h => h) (Or.inl ⟨by rfl, ?_⟩) ?_ ?_
      rotate_left
      · intro w'
        go_simp
        try with_reducible rfl
      rotate_left
      · simp only [Act.put, List.setIfInBounds_toArray, List.set_cons_zero, List.set_cons_succ, i64_w, i32_w]
        rfl
      refine pure_ (i := 7) (N := some 79) (v := ?_) (a' := ?_) #[true, true, true, true, true, true, true, true, false, false, false] rfl rfl (by kernel_rfl) (fun _ _ _ h => h) (Or.inl ⟨by rfl, ?_⟩) ?_ ?_
      rotate_left
      · intro w'
        go_simp
        try with_reducible rfl
      rotate_left
      · simp only [Act.put, List.setIfInBounds_toArray, List.set_cons_zero, List.set_cons_succ, i64_w, i32_w]
        rfl
      refine pure_ (i := 8) (N := some 80) (v := ?_) (a' := ?_) #[true, true, true, true, true, true, true, true, true, false, false] rfl rfl (by kernel_rfl) (fun _ _ _ h => h) (Or.inl ⟨by rfl, ?_⟩) ?_ ?_
      rotate_left
      · intro w'
        go_simp
        try with_reducible rfl
      rotate_left
      · simp only [Act.put, List.setIfInBounds_toArray, List.set_cons_zero, List.set_cons_succ, i64_w, i32_w]
        rfl
      refine pure_ (i := 9) (N := some 14) (v := ?_) (a' := ?_) #[true, true, true, true, true, true, true, true, true, true, false] rfl rfl (by kernel_rfl) (fun _ _ _ h => h) (Or.inl ⟨by rfl, ?_⟩) ?_ ?_
      rotate_left
      · intro w'
        go_simp
        try with_reducible rfl
      rotate_left
      · simp only [Act.put, List.setIfInBounds_toArray, List.set_cons_zero, List.set_cons_succ, i64_w, i32_w]
        rfl
      refine pure_ (i := 10) (N := some 15) (v := ?_) (a' := ?_) #[true, true, true, true, true, true, true, true, true, true, true] rfl rfl (by kernel_rfl) (fun _ _ _ h => h) (Or.inl ⟨by rfl, ?_⟩) ?_ ?_
      rotate_left
      · intro w'
        go_simp
        try with_reducible rfl
      rotate_left
      · simp only [Act.put, List.setIfInBounds_toArray, List.set_cons_zero, List.set_cons_succ, i64_w, i32_w]
        rfl
      refine done_ (by kernel_rfl) ?_
      clear hH
      have hH := hHeld
      clear hHeld
      go_wp2_with fail
      refine start_ (n := 11) (S := fun wx => Held W W.heap.size w (p : Int) (f : Int) t (last : Int) A10 m z wx) (ds := []) #[false, false, false, false, false, false, false, false, false, false, false] (by kernel_rfl) rfl rfl (held_kept hH (below_drew (Below.refl _ _))) (fun hHeld => ?_)
      refine take_ (i := 0) (N := some 82) (v := ?_) (a' := ?_) #[true, false, false, false, false, false, false, false, false, false, false] rfl rfl (by kernel_rfl) (fun _ _ _ h => h) (Or.inl ⟨by rfl, ?_⟩) hHeld ?_ ?_
      rotate_left
      · rintro w' ⟨_, _, _, s0, s1, s2, s3, s4⟩
        go_simp
        with_reducible rfl
      rotate_left
      · simp only [Act.put, List.setIfInBounds_toArray, List.set_cons_zero, List.set_cons_succ, i64_w, i32_w]
        rfl
      refine pure_ (i := 2) (N := some 84) (v := ?_) (a' := ?_) #[true, false, true, false, false, false, false, false, false, false, false] rfl rfl (by kernel_rfl) (fun _ _ _ h => h) (Or.inl ⟨by rfl, ?_⟩) ?_ ?_
      rotate_left
      · intro w'
        go_simp
        try with_reducible rfl
      rotate_left
      · simp only [Act.put, List.setIfInBounds_toArray, List.set_cons_zero, List.set_cons_succ, i64_w, i32_w]
        rfl
      refine pure_ (i := 3) (N := some 85) (v := ?_) (a' := ?_) #[true, false, true, true, false, false, false, false, false, false, false] rfl rfl (by kernel_rfl) (fun _ _ _ h => h) (Or.inl ⟨by rfl, ?_⟩) ?_ ?_
      rotate_left
      · intro w'
        go_simp
        try with_reducible rfl
      rotate_left
      · simp only [Act.put, List.setIfInBounds_toArray, List.set_cons_zero, List.set_cons_succ, i64_w, i32_w]
        rfl
      refine pure_ (i := 4) (N := some 86) (v := ?_) (a' := ?_) #[true, false, true, true, true, false, false, false, false, false, false] rfl rfl (by kernel_rfl) (fun _ _ _ h => h) (Or.inl ⟨by rfl, ?_⟩) ?_ ?_
      rotate_left
      · intro w'
        go_simp
        try with_reducible rfl
      rotate_left
      · simp only [Act.put, List.setIfInBounds_toArray, List.set_cons_zero, List.set_cons_succ, i64_w, i32_w]
        rfl
      refine one_ (i := 1) (N := some 83) #[true, true, true, true, true, false, false, false, false, false, false] rfl rfl (by kernel_rfl) (by decide) (fun K hK => ?_)
      refine goes_ Try.func40 (by kernel_rfl) rfl #[.agg #[.int .i64 w, .int .u32 (p : Int), .int .u32 (f : Int), .bool t, .int .u32 (last : Int)]] (by rfl) rfl rfl (by (try simp only [List.map_toArray, List.map_cons, List.map_nil]); first | done | rfl) ?_
      refine (ofC _ _ _ _ _ _).mono ?_
      rintro e w5 ⟨rfl, hb5⟩
      refine ⟨_, rfl, ?_⟩
      refine hK.out _ _ (held_kept hHeld hb5) (fun hHeld => ?_)
      clear hK K
      refine norm_ (a' := ?_) ?_ ?_
      rotate_left
      · show Act.put _ (some 83) _ = _
        simp only [Act.put, List.setIfInBounds_toArray, List.set_cons_zero, List.set_cons_succ, i64_w, i32_w]
        rfl
      refine one_ (i := 5) (N := some 87) #[true, true, true, true, true, true, false, false, false, false, false] rfl rfl (by kernel_rfl) (by decide) (fun K hK => ?_)
      refine goes_ Try.func39 (by kernel_rfl) rfl #[.agg #[.int .i64 w, .int .u32 (p : Int), .int .u32 (f : Int), .bool t, .int .u32 (last : Int)], .slice A3 m c3] (by rfl) rfl rfl (by (try simp only [List.map_toArray, List.map_cons, List.map_nil]); first | done | rfl) ?_
      refine (hs3 _ (C_cut E3.out hmm (Kd.C_below hC3 hHeld.2.1))).mono ?_
      rintro e w6 ⟨rfl, hb6⟩
      refine ⟨_, rfl, ?_⟩
      refine hK.out _ _ (held_kept hHeld hb6) (fun hHeld => ?_)
      clear hK K
      refine norm_ (a' := ?_) ?_ ?_
      rotate_left
      · show Act.put _ (some 87) _ = _
        simp only [Act.put, List.setIfInBounds_toArray, List.set_cons_zero, List.set_cons_succ, i64_w, i32_w]
        rfl
      refine pure_ (i := 6) (N := some 81) (v := ?_) (a' := ?_) #[true, true, true, true, true, true, true, false, false, false, false] rfl rfl (by kernel_rfl) (fun _ _ _ h => h) (Or.inl ⟨by rfl, ?_⟩) ?_ ?_
      rotate_left
      · intro w'
        go_simp
        try with_reducible rfl
      rotate_left
      · simp only [Act.put, List.setIfInBounds_toArray, List.set_cons_zero, List.set_cons_succ, i64_w, i32_w]
        rfl
      refine pure_ (i := 7) (N := some 88) (v := ?_) (a' := ?_) #[true, true, true, true, true, true, true, true, false, false, false] rfl rfl (by kernel_rfl) (fun _ _ _ h => h) (Or.inl ⟨by rfl, ?_⟩) ?_ ?_
      rotate_left
      · intro w'
        go_simp
        try with_reducible rfl
      rotate_left
      · simp only [Act.put, List.setIfInBounds_toArray, List.set_cons_zero, List.set_cons_succ, i64_w, i32_w]
        rfl
      refine pure_ (i := 8) (N := some 89) (v := ?_) (a' := ?_) #[true, true, true, true, true, true, true, true, true, false, false] rfl rfl (by kernel_rfl) (fun _ _ _ h => h) (Or.inl ⟨by rfl, ?_⟩) ?_ ?_
      rotate_left
      · intro w'
        go_simp
        try with_reducible rfl
      rotate_left
      · simp only [Act.put, List.setIfInBounds_toArray, List.set_cons_zero, List.set_cons_succ, i64_w, i32_w]
        rfl
      refine pure_ (i := 9) (N := some 16) (v := ?_) (a' := ?_) #[true, true, true, true, true, true, true, true, true, true, false] rfl rfl (by kernel_rfl) (fun _ _ _ h => h) (Or.inl ⟨by rfl, ?_⟩) ?_ ?_
      rotate_left
      · intro w'
        go_simp
        try with_reducible rfl
      rotate_left
      · simp only [Act.put, List.setIfInBounds_toArray, List.set_cons_zero, List.set_cons_succ, i64_w, i32_w]
        rfl
      refine pure_ (i := 10) (N := some 17) (v := ?_) (a' := ?_) #[true, true, true, true, true, true, true, true, true, true, true] rfl rfl (by kernel_rfl) (fun _ _ _ h => h) (Or.inl ⟨by rfl, ?_⟩) ?_ ?_
      rotate_left
      · intro w'
        go_simp
        try with_reducible rfl
      rotate_left
      · simp only [Act.put, List.setIfInBounds_toArray, List.set_cons_zero, List.set_cons_succ, i64_w, i32_w]
        rfl
      refine done_ (by kernel_rfl) ?_
      clear hH
      have hH := hHeld
      clear hHeld
      obtain ⟨hk5, hB5, hC5, s0, s1', s2', s3', s4'⟩ := hH
      go_wp2_with fail
      refine (ofC _ _ _ _ _ _).mono ?_
      rintro e w7 ⟨rfl, hb7⟩
      have hB7 := bthen hB5 hb7
      have hC7 := Kd.C_below hC5 hb7
      clear hk5 hB5 hC5 s0 s1' s2' s3' s4' hb7
      go_wp2_with fail
      refine (hs4 A10 c10 hc10 _ hC7).mono ?_
      rintro e w8 ⟨rfl, hb8⟩
      go_wp2
      go_ret
      exact ⟨by simp, bthen hB7 hb8⟩

theorem walk (w : Int) (p f : Nat) (t : Bool) (last : Nat) (hp4 : p < 4294967296) (hf4 : f < 4294967296) (hl4 : last < 4294967296) (A1 A2 A3 : Option Addr) (n1 n2 n3 c1 c2 c3 : Nat)
    (l1 l2 l3 : List Nat) (e1 : l1.length = n1) (e2 : l2.length = n2) (e3 : l3.length = n3) (b1 : ∀ x ∈ l1, x < 256) (b2 : ∀ x ∈ l2, x < 256) (b3 : ∀ x ∈ l3, x < 256) (hc1 : n1 ≤ c1) (hc2 : n2 ≤ c2) (hc3 : n3 ≤ c3) (W : World)
    (hC1 : Kd.C (Kd.int .u8) W A1 n1 (ints l1)) (hC2 : Kd.C (Kd.int .u8) W A2 n2 (ints l2)) (hC3 : Kd.C (Kd.int .u8) W A3 n3 (ints l3)) :
    Calls Try.prog 10 #[.agg #[.int .i64 w, .int .u32 (p : Int), .int .u32 (f : Int), .bool t, .int .u32 (last : Int)], .slice A1 n1 c1, .slice A2 n2 c2, .slice A3 n3 c3] W fun e w' => e = .returned (.bool true) ∧ Below W.heap.size W w' := by
  by_cases h : 300 < least n1 n2 n3 ∨ ¬ Right w p f last
  · exact long w p f t last hp4 hf4 hl4 A1 A2 A3 n1 n2 n3 c1 c2 c3 _ rfl h W
  · exact within w p f t last hp4 hf4 hl4 A1 A2 A3 n1 n2 n3 c1 c2 c3 _ rfl (by omega) (Decidable.not_not.1 (fun g => h (.inr g))) l1 l2 l3 e1 e2 e3 b1 b2 b3 hc1 hc2 hc3 W hC1 hC2 hC3
end Go.Proofs.Ytcmofedfbjpjlaa.CrcLineWalk
