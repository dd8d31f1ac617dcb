import Derived.Test.YtcmofedfbjpjlaaRingLaw
import Derived.Test.YtcmofedfbjpjlaaRingQStr
import Derived.Laws.IdiomStrings
import Derived.Laws.Bits128
import Derived.RegionTactic
import Derived.BigRegion
/- The law RingKinds, walked. -/
set_option linter.unusedVariables false
set_option linter.unusedSimpArgs false
namespace Go.Proofs.Ytcmofedfbjpjlaa.RingKindsWalk
open Go.RowKit Go.Proofs.YtcmofedfbjpjlaaW.PrintWords Go.Proofs.Ytcmofedfbjpjlaa.Nats Go.Proofs.Ytcmofedfbjpjlaa.RingLaw

/-- The text of one byte. -/
def txt (x : Nat) : ByteArray := ⟨#[UInt8.ofNat x]⟩
theorem conv (x : Nat) (hx : x < 256) (w : World) : (convert 54 9 (.slice (some ⟨w.heap.size, 0, none⟩) 1 1)).run Try.prog (w.alloc (.cells #[.int .u8 (x : Int)] 5)) = .ok (.string (txt x)) (w.alloc (.cells #[.int .u8 (x : Int)] 5)) := by
  have h := run_convert_bytes_back (P := Try.prog) (w.alloc (.cells #[.int .u8 (x : Int)] 5)) 54 9 5 ⟨w.heap.size, 0, none⟩ 1 [UInt8.ofNat x] Try.underlying54 Try.underlying5 Try.underlying9 (by
    intro j hj
    obtain rfl : j = 0 := by simpa using hj
    show (w.alloc (.cells #[.int .u8 (x : Int)] 5)).cell? ⟨w.heap.size, 0, none⟩ = _
    simp [Nat.mod_eq_of_lt hx])
  exact h
theorem convD (x : Nat) (hx : x < 256) (w : World) : (convert 54 9 (.slice (some ⟨w.heap.size, 0, none⟩) 1 1)).run Try.prog (w.alloc (.cells #[.int .u8 (x : Int)] 5)).drew = .ok (.string (txt x)) (w.alloc (.cells #[.int .u8 (x : Int)] 5)).drew := by
  have h := run_convert_bytes_back (P := Try.prog) (w.alloc (.cells #[.int .u8 (x : Int)] 5)).drew 54 9 5 ⟨w.heap.size, 0, none⟩ 1 [UInt8.ofNat x] Try.underlying54 Try.underlying5 Try.underlying9 (by
    intro j hj
    obtain rfl : j = 0 := by simpa using hj
    show (w.alloc (.cells #[.int .u8 (x : Int)] 5)).cell? ⟨w.heap.size, 0, none⟩ = _
    simp [Nat.mod_eq_of_lt hx])
  exact h
theorem toS {a b : Nat} {w w2 : World} (h : RingInt.Turn a b w w2) : RingStr.Turn a b w w2 := ⟨h.os, h.tape, h.output, h.size, h.block⟩
theorem toI {a b : Nat} {w w2 : World} (h : RingStr.Turn a b w w2) : RingInt.Turn a b w w2 := ⟨h.os, h.tape, h.output, h.size, h.block⟩
theorem add_next (ad : Addr) (k : Nat) : (⟨(ad.add k).block, (ad.add k).off + 1, none⟩ : Addr) = ad.add (k + 1) := by
  unfold Addr.add
  by_cases h : k = 0
  · subst h
    simp
  · rw [if_neg h, if_neg (by omega)]
    simp [Nat.add_assoc]
/-- The queue of numbers behind a put. -/
def nextQ (most : Nat) (Q : List Nat) (x : Nat) : List Nat := if Q.length < most then Q ++ [x] else Q.tail ++ [x]
theorem next_int (most : Nat) (Q : List Nat) (x : Nat) : RingQInt.putQ most (ints Q) (x : Int) = ints (nextQ most Q x) := by
  unfold RingQInt.putQ nextQ
  simp only [List.length_map, ints]
  split <;> simp [List.map_tail]
theorem next_str (most : Nat) (Q : List Nat) (x : Nat) : RingQStr.putQ most (Q.map txt) (txt x) = (nextQ most Q x).map txt := by
  unfold RingQStr.putQ nextQ
  simp only [List.length_map]
  split <;> simp [List.map_tail]
theorem next_mem {most : Nat} {Q : List Nat} {x : Nat} (h : ∀ q ∈ Q, q < 256) (hx : x < 256) : ∀ q ∈ nextQ most Q x, q < 256 := by
  unfold nextQ
  intro q hq
  split at hq
  · rcases List.mem_append.1 hq with h1 | h1
    · exact h q h1
    · rw [List.mem_singleton.1 h1]; exact hx
  · rcases List.mem_append.1 hq with h1 | h1
    · exact h q (List.mem_of_mem_tail h1)
    · rw [List.mem_singleton.1 h1]; exact hx

/-- Both lists, read. -/
structure Two (W : World) (A B : Option Addr) (Q : List Nat) : Prop where
  a : ∀ i, i < Q.length → ∃ g, A = some ⟨g, 0, none⟩ ∧ W.cell? ⟨g, i, none⟩ = some (.int .i64 ((Q.getD i 0 : Nat) : Int))
  b : ∀ i, i < Q.length → ∃ g, B = some ⟨g, 0, none⟩ ∧ W.cell? ⟨g, i, none⟩ = some (.string (txt (Q.getD i 0)))
theorem Two.step {W w2 : World} {A B : Option Addr} {Q : List Nat} (h : Two W A B Q) (hb : Below W.heap.size W w2) : Two w2 A B Q :=
  ⟨fun i hi => by obtain ⟨g, h1, h2⟩ := h.a i hi; exact ⟨g, h1, (hb.cell (World.block_lt_of_cell? W _ h2)).trans h2⟩,
   fun i hi => by obtain ⟨g, h1, h2⟩ := h.b i hi; exact ⟨g, h1, (hb.cell (World.block_lt_of_cell? W _ h2)).trans h2⟩⟩
theorem int_form {W : World} {v : Value} {Q : List Nat} (h : RingQInt.Row W v (ints Q)) : ∃ A c, v = .slice A Q.length c ∧ ∀ i, i < Q.length → ∃ g, A = some ⟨g, 0, none⟩ ∧ W.cell? ⟨g, i, none⟩ = some (.int .i64 ((Q.getD i 0 : Nat) : Int)) := by
  rcases h with ⟨rfl, h0⟩ | ⟨g, c, rfl, hc, hcell⟩
  · obtain rfl : Q = [] := by simpa [ints] using h0
    exact ⟨none, 0, rfl, fun i hi => absurd hi (by simp)⟩
  · refine ⟨some ⟨g, 0, none⟩, c, by simp [ints], fun i hi => ⟨g, rfl, ?_⟩⟩
    rw [hcell i (by simpa [ints] using hi)]
    simp [ints, List.getD_eq_getElem?_getD, hi]
theorem str_form {W : World} {v : Value} {Q : List Nat} (h : RingQStr.Row W v (Q.map txt)) : ∃ A c, v = .slice A Q.length c ∧ ∀ i, i < Q.length → ∃ g, A = some ⟨g, 0, none⟩ ∧ W.cell? ⟨g, i, none⟩ = some (.string (txt (Q.getD i 0))) := by
  rcases h with ⟨rfl, h0⟩ | ⟨g, c, rfl, hc, hcell⟩
  · obtain rfl : Q = [] := by simpa using h0
    exact ⟨none, 0, rfl, fun i hi => absurd hi (by simp)⟩
  · refine ⟨some ⟨g, 0, none⟩, c, by simp, fun i hi => ⟨g, rfl, ?_⟩⟩
    rw [hcell i (by simpa using hi)]
    simp [List.getD_eq_getElem?_getD, hi]
/-- Between two looks. -/
def Rel2 (W : World) (A B : Option Addr) (Q : List Nat) (s : Value) (wr : World) : Prop :=
  ∃ j : Nat, j ≤ Q.length ∧ s = .int .i64 (j : Int) ∧ Two wr A B Q ∧ Below W.heap.size W wr

/-- Between two acts: both queues hold the same. -/
structure St (W wr : World) (gb ga hb ha most : Nat) (Q : List Nat) (lost : Nat) : Prop where
  q1 : RingQInt.Qu wr gb ga most (ints Q) lost
  q2 : RingQStr.Qu wr hb ha most (Q.map txt) lost
  be : Below W.heap.size W wr
  small : ∀ q ∈ Q, q < 256
structure Apart (W : World) (gb ga hb ha : Nat) : Prop where
  g1 : W.heap.size ≤ gb
  g2 : W.heap.size ≤ ga
  g3 : W.heap.size ≤ hb
  g4 : W.heap.size ≤ ha
  n1 : gb ≠ hb
  n2 : gb ≠ ha
  n3 : ga ≠ hb
  n4 : ga ≠ ha
theorem St.step {W wr w2 : World} {gb ga hb ha most lost : Nat} {Q : List Nat} (h : St W wr gb ga hb ha most Q lost) (hb' : Below wr.heap.size wr w2) : St W w2 gb ga hb ha most Q lost :=
  ⟨h.q1.step hb', h.q2.step hb', bthen h.be hb', h.small⟩
def Rel (W : World) (gb ga hb ha most N : Nat) (s9 : Value) (wr : World) : Prop :=
  ∃ (i lost : Nat) (Q : List Nat), i ≤ N ∧ s9 = .int .i64 (i : Int) ∧ St W wr gb ga hb ha most Q lost ∧ lost ≤ i

set_option maxRecDepth 100000 in
set_option maxHeartbeats 1000000 in
theorem long (most : Int) (A : Option Addr) (n c : Nat) (h : 300 < n) (W : World) :
    Calls Try.prog 6 #[.int .i64 most, .slice A n c] W fun e w' => e = .returned (.bool true) ∧ Below W.heap.size W w' := by
  have t1 : decide ((n : Int) > 300) = true := by simp; omega
  go_enter Try.func6, Try.ntmps6
  go_wp2_with fail
  refine (awake _).mono ?_
  rintro e w1 ⟨rfl, hb⟩
  go_wp2_with fail
  refine (awake _).mono ?_
  rintro e w2 ⟨rfl, hb2⟩
  go_wp2
  go_ret
  exact ⟨rfl, bthen hb hb2⟩

set_option maxRecDepth 100000 in
set_option maxHeartbeats 1000000 in
theorem bad (most : Int) (A : Option Addr) (n c : Nat) (h : n ≤ 300) (hm : most < 1 ∨ 64 < most) (W : World) :
    Calls Try.prog 6 #[.int .i64 most, .slice A n c] W fun e w' => e = .returned (.bool true) ∧ Below W.heap.size W w' := by
  have t1 : decide ((n : Int) > 300) = false := by simp; omega
  go_enter Try.func6, Try.ntmps6
  go_wp2_with fail
  refine (awake _).mono ?_
  rintro e w1 ⟨rfl, hb⟩
  go_wp2_with fail
  refine (RingInt.new_bad most hm _).mono ?_
  rintro e w2 ⟨rfl, rfl⟩
  go_wp2_with fail
  refine (RingStr.new_bad most hm _).mono ?_
  rintro e w3 ⟨rfl, rfl⟩
  go_wp2
  go_ret
  exact ⟨rfl, hb⟩

set_option maxRecDepth 100000 in
set_option maxHeartbeats 2000000 in
theorem good (most : Nat) (hm1 : 1 ≤ most) (hm2 : most ≤ 64) (A : Option Addr) (n c : Nat) (h : n ≤ 300) (l : List (Bool × Int)) (hl : l.length = n) (hw : ∀ q ∈ l, (Lit.int .i64 q.2).wf = true) (W : World) (hA : Acts W A l) :
    Calls Try.prog 6 #[.int .i64 (most : Int), .slice A n c] W fun e w' => e = .returned (.bool true) ∧ Below W.heap.size W w' := by
  have t1 : decide ((n : Int) > 300) = false := by simp; omega
  have Hl := Lib.hid hl
  clear hl
  go_enter Try.func6, Try.ntmps6
  go_wp2_with fail
  refine (awake _).mono ?_
  rintro e w1 ⟨rfl, hb1⟩
  go_wp2_with fail
  refine (RingQInt.newQ most hm1 hm2 _).mono ?_
  rintro e w2 ⟨gb, ga, rfl, hq, hgb, hga, hb2⟩
  go_wp2_with fail
  refine (RingQStr.newQ most hm1 hm2 _).mono ?_
  rintro e w3 ⟨hb, ha, rfl, hs, hhb, hha, hb3⟩
  have hap : Apart W gb ga hb ha := by
    obtain ⟨vs, f, hR, _⟩ := hq
    have l1 := blk_lt hR.box
    have l2 := blk_lt hR.row
    have s1 := hb1.size
    have s2 := hb2.size
    exact ⟨by omega, by omega, by omega, by omega, by omega, by omega, by omega, by omega⟩
  have hS : St W w3 gb ga hb ha most [] 0 := ⟨hq.step hb3, hs, bthen (bthen hb1 hb2) hb3, by simp⟩
  clear hq hs hb1 hb2 hb3 hgb hga hhb hha
  go_wp2_with fail
  go_loopw [9] (Rel W gb ga hb ha most n) (fun i _ => n - (intOf i).toNat)
  case atStart => exact ⟨0, 0, [], Nat.zero_le _, rfl, hS, Nat.le_refl _⟩
  case round =>
    clear hS
    obtain ⟨i, lost, Q, hi, rfl, hS, hli⟩ := hrel
    by_cases hlt : i < n
    · have il : i < l.length := by rw [Hl.out]; exact hlt
      obtain ⟨ad, rfl, ct, cx⟩ := (hA.step hS.be) i il
      obtain ⟨⟨t, X⟩, hp⟩ : ∃ p, l.getD i (false, 0) = p := ⟨_, rfl⟩
      rw [hp] at ct cx
      rw [← add_next] at cx
      clear hp
      obtain ⟨x, ex, hx1, hx2⟩ : ∃ x : Nat, wrap64 (1 + bits BinOp.and IntKind.i64 X 127) = (x : Int) ∧ 1 ≤ x ∧ x < 256 := by
        rw [i64_and127]
        refine ⟨(1 + X % 128).toNat, ?_, by omega, by omega⟩
        rw [IntWalk.wrap64_in _ (by omega)]
        omega
      have hm : (x : Int) % 256 = (x : Int) := by omega
      have hm' : x % 256 = x := by omega
      have hconv := conv x hx2
      have ct2 : (wr.alloc (.cells #[.int .u8 (x : Int)] 5)).cell? (ad.add (i * 2)) = _ := ((below_alloc (Below.refl wr.heap.size wr) (.cells #[.int .u8 (x : Int)] 5)).cell (World.block_lt_of_cell? wr _ ct)).trans ct
      cases t with
      | true =>
        cases Q with
        | nil =>
          go_wp2_with fail
          have hS2 := hS.step (below_alloc (Below.refl wr.heap.size wr) (.cells #[.int .u8 (x : Int)] 5))
          refine (RingQInt.take hS2.q1).mono ?_
          rintro e w3 ⟨rfl, hq3, ht3⟩
          have hB3 := ht3.up hS2.be hap.g1 hap.g2
          have hs3 := hS2.q2.kept (toS ht3) (by have := hap.n1; have := hap.n3; omega) (by have := hap.n2; have := hap.n4; omega)
          rw [show ints [] = [] from rfl, List.headD_nil, List.isEmpty_nil, Bool.not_true]
          rw [show ints [] = [] from rfl, List.tail_nil] at hq3
          go_wp2_with fail
          refine (RingQStr.take hs3).mono ?_
          rintro e w4 ⟨rfl, hs4, ht4⟩
          have hB4 := ht4.up hB3 hap.g3 hap.g4
          have hq4 := hq3.kept (toI ht4) (by have := hap.n1; have := hap.n2; omega) (by have := hap.n3; have := hap.n4; omega)
          rw [List.map_nil, List.headD_nil, List.isEmpty_nil, Bool.not_true]
          rw [List.map_nil, List.tail_nil] at hs4
          go_wp2_with fail
          refine ⟨⟨i + 1, lost, [], by omega, by simp, ⟨hq4, hs4, hB4, by simp⟩, by omega⟩, ?_⟩
          simp [intOf]
          omega
        | cons q Q =>
          have hq256 : q < 256 := hS.small q (List.mem_cons_self ..)
          have hm2 : (q : Int) % 256 = (q : Int) := by omega
          have hm2' : q % 256 = q := by omega
          have hconv2 := conv q hq256
          go_wp2_with fail
          have hS2 := hS.step (below_alloc (Below.refl wr.heap.size wr) (.cells #[.int .u8 (x : Int)] 5))
          refine (RingQInt.take hS2.q1).mono ?_
          rintro e w3 ⟨rfl, hq3, ht3⟩
          have hB3 := ht3.up hS2.be hap.g1 hap.g2
          have hs3 := hS2.q2.kept (toS ht3) (by have := hap.n1; have := hap.n3; omega) (by have := hap.n2; have := hap.n4; omega)
          rw [show ints (q :: Q) = (q : Int) :: ints Q from rfl, List.headD_cons, List.isEmpty_cons, Bool.not_false]
          rw [show ints (q :: Q) = (q : Int) :: ints Q from rfl, List.tail_cons] at hq3
          go_wp2_with fail
          refine (RingQStr.take hs3).mono ?_
          rintro e w4 ⟨rfl, hs4, ht4⟩
          have hB4 := ht4.up hB3 hap.g3 hap.g4
          have hq4 := hq3.kept (toI ht4) (by have := hap.n1; have := hap.n2; omega) (by have := hap.n3; have := hap.n4; omega)
          rw [List.map_cons, List.headD_cons, List.isEmpty_cons, Bool.not_false]
          rw [List.map_cons, List.tail_cons] at hs4
          go_wp2_with fail
          have hS4 : St W w4 gb ga hb ha most Q lost := ⟨hq4, hs4, hB4, fun z hz => hS.small z (List.mem_cons_of_mem _ hz)⟩
          refine ⟨⟨i + 1, lost, Q, by omega, by simp, hS4.step (below_alloc (Below.refl _ _) _), by omega⟩, ?_⟩
          simp [intOf]
          omega
      | false =>
        go_wp2_with fail
        have hS2 := hS.step (below_alloc (Below.refl wr.heap.size wr) (.cells #[.int .u8 (x : Int)] 5))
        refine (RingQInt.put hS2.q1 (by omega) (x : Int)).mono ?_
        rintro e w3 ⟨rfl, hq3, ht3⟩
        have hB3 := ht3.up hS2.be hap.g1 hap.g2
        have hs3 := hS2.q2.kept (toS ht3) (by have := hap.n1; have := hap.n3; omega) (by have := hap.n2; have := hap.n4; omega)
        have hlen : (ints Q).length = Q.length := by simp [ints]
        rw [hlen]
        rw [next_int, RingQInt.putL, hlen] at hq3
        go_wp2_with fail
        refine (RingQStr.put hs3 (by omega) (txt x)).mono ?_
        rintro e w4 ⟨rfl, hs4, ht4⟩
        have hB4 := ht4.up hB3 hap.g3 hap.g4
        have hq4 := hq3.kept (toI ht4) (by have := hap.n1; have := hap.n2; omega) (by have := hap.n3; have := hap.n4; omega)
        rw [List.length_map]
        rw [next_str, RingQStr.putL, List.length_map] at hs4
        go_wp2_with fail
        refine ⟨⟨i + 1, _, _, by omega, by simp, ⟨hq4, hs4, hB4, next_mem hS.small hx2⟩, by split <;> omega⟩, ?_⟩
        simp [intOf]
        omega
    · obtain rfl : i = n := by omega
      go_wp2_with fail
      refine (RingQInt.listQ hS.q1).mono ?_
      rintro e w3 ⟨v, rfl, hv, hb3⟩
      have hS3 := hS.step hb3
      go_wp2_with fail
      refine (RingQStr.listQ hS3.q2).mono ?_
      rintro e w4 ⟨v2, rfl, hv2, hb4⟩
      have hS4 := hS3.step hb4
      have hv4 := hv.step hb4
      clear hv hS3 hS hb3 hb4
      obtain ⟨A1, c1, rfl, ha1⟩ := int_form hv4
      obtain ⟨A2, c2, rfl, ha2⟩ := str_form hv2
      have hT : Two w4 A1 A2 Q := ⟨ha1, ha2⟩
      clear ha1 ha2 hv4 hv2
      go_wp2_with fail
      refine (RingQInt.lostQ hS4.q1).mono ?_
      rintro e w5 ⟨rfl, hb5⟩
      have hS5 := hS4.step hb5
      have hT5 := hT.step hb5
      clear hS4 hT hb5
      go_wp2_with fail
      refine (RingQStr.lostQ hS5.q2).mono ?_
      rintro e w6 ⟨rfl, hb6⟩
      have hS6 := hS5.step hb6
      have hT6 := hT5.step hb6
      clear hS5 hT5 hb6
      go_wp2_with fail
      refine (RingQInt.lenQ hS6.q1).mono ?_
      rintro e w7 ⟨rfl, hb7⟩
      have hS7 := hS6.step hb7
      have hT7 := hT6.step hb7
      clear hS6 hT6 hb7
      rw [show (ints Q).length = Q.length from by simp [ints]]
      go_wp2_with fail
      refine (RingQStr.lenQ hS7.q2).mono ?_
      rintro e w8 ⟨rfl, hb8⟩
      have hT8 := hT7.step hb8
      have hB8 := (hS7.step hb8).be
      have hsm := hS7.small
      have hk64 : Q.length ≤ 64 := by
        have h1 := hS7.q1.fits
        rw [show (ints Q).length = Q.length from by simp [ints]] at h1
        omega
      clear hS7 hT7 hb8
      rw [List.length_map]
      obtain ⟨k, hk⟩ : ∃ k, Q.length = k := ⟨_, rfl⟩
      rw [hk]
      rw [hk] at hk64
      have Hk := Lib.hid hk
      clear hk
      go_wp2_with fail
      go_loopw [18] (Rel2 W A1 A2 Q) (fun s _ => k - (intOf s).toNat)
      case atStart => exact ⟨0, Nat.zero_le _, rfl, hT8, hB8⟩
      case round =>
        clear hT8 hB8
        obtain ⟨j, hj, rfl, hT, hB⟩ := hrel
        rw [Hk.out] at hj
        by_cases hlt2 : j < k
        · obtain ⟨g, rfl, hc1⟩ := hT.a j (by rw [Hk.out]; exact hlt2)
          obtain ⟨g2, rfl, hc2⟩ := hT.b j (by rw [Hk.out]; exact hlt2)
          obtain ⟨q, hq⟩ : ∃ q, Q.getD j 0 = q := ⟨_, rfl⟩
          rw [hq] at hc1 hc2
          have hq256 : q < 256 := by
            rw [← hq, List.getD_eq_getElem?_getD, List.getElem?_eq_getElem (by rw [Hk.out]; exact hlt2)]
            exact hsm _ (List.getElem_mem _)
          clear hq
          have hm2 : (q : Int) % 256 = (q : Int) := by omega
          have hm2' : q % 256 = q := by omega
          have hconv2 := convD q hq256
          have hc1' := ((below_alloc (Below.refl wr.heap.size wr) (.cells #[.int .u8 (q : Int)] 5)).cell (World.block_lt_of_cell? wr _ hc1)).trans hc1
          have hc2' := ((below_alloc (Below.refl wr.heap.size wr) (.cells #[.int .u8 (q : Int)] 5)).cell (World.block_lt_of_cell? wr _ hc2)).trans hc2
          have hwr : IntKind.u8.wrap (q : Int) = (q : Int) := by
            rw [IntKind.wrap_u8]
            omega
          go_wp2_with fail
          go_region
          have hbl : Below wr.heap.size wr (wr.alloc (.cells #[.int .u8 (q : Int)] 5)).drew := below_drew (below_alloc (Below.refl _ _) _)
          all_goals go_wp2_with fail
          all_goals refine ⟨⟨j + 1, by rw [Hk.out]; omega, by simp, hT.step hbl, bthen hB hbl⟩, ?_⟩
          all_goals (simp [intOf]; omega)
        · obtain rfl : j = k := by omega
          go_wp2_with fail
          go_ret
          exact ⟨rfl, hB⟩

/-- The law, whatever comes in. -/
theorem walk (most : Int) (A : Option Addr) (n c : Nat) (l : List (Bool × Int)) (hl : l.length = n) (hw : ∀ q ∈ l, (Lit.int .i64 q.2).wf = true) (W : World) (hA : Acts W A l) :
    Calls Try.prog 6 #[.int .i64 most, .slice A n c] W fun e w' => e = .returned (.bool true) ∧ Below W.heap.size W w' := by
  by_cases h3 : 300 < n
  · exact long most A n c h3 W
  · by_cases hm : most < 1 ∨ 64 < most
    · exact bad most A n c (by omega) hm W
    · obtain ⟨m, rfl⟩ := Int.eq_ofNat_of_zero_le (show 0 ≤ most by omega)
      exact good m (by omega) (by omega) A n c (by omega) l hl hw W hA
end Go.Proofs.Ytcmofedfbjpjlaa.RingKindsWalk

