import Derived.Test.YtcmofedfbjpjlaaRingRef
import Derived.Test.YtcmofedfbjpjlaaPNumbersx1
/- The law RingPlays, walked. -/
set_option linter.unusedVariables false
set_option linter.unusedSimpArgs false
namespace Go.Proofs.Ytcmofedfbjpjlaa.RingPlaysWalk
open Go.RowKit Go.Proofs.YtcmofedfbjpjlaaW.PrintWords Go.Proofs.YtcmofedfbjpjlaaW.PrintLast Go.Proofs.Ytcmofedfbjpjlaa.Nats Go.Proofs.Ytcmofedfbjpjlaa.RingLaw Go.Proofs.Ytcmofedfbjpjlaa.RingInt Go.Proofs.Ytcmofedfbjpjlaa.RingQInt Go.Proofs.Ytcmofedfbjpjlaa.PNumbers

set_option maxRecDepth 100000 in
set_option maxHeartbeats 1000000 in
theorem long (most : Int) (A : Option Addr) (n c : Nat) (h : 300 < n) (W : World) :
    Calls Try.prog 4 #[.int .i64 most, .slice A n c] W fun e w' => e = .returned (.bool true) ∧ Below W.heap.size W w' := by
  have t1 : decide ((n : Int) > 300) = true := by simp; omega
  go_enter Try.func4, Try.ntmps4
  go_wp2_with fail
  refine (awake _).mono ?_
  rintro e w1 ⟨rfl, hb⟩
  go_wp2_with fail
  refine (awake _).mono ?_
  rintro e w2 ⟨rfl, hb2⟩
  go_wp2
  go_ret
  exact ⟨rfl, bthen hb hb2⟩

set_option maxRecDepth 100000 in
set_option maxHeartbeats 1000000 in
theorem bad (most : Int) (A : Option Addr) (n c : Nat) (h : n ≤ 300) (hm : most < 1 ∨ 64 < most) (W : World) :
    Calls Try.prog 4 #[.int .i64 most, .slice A n c] W fun e w' => e = .returned (.bool true) ∧ Below W.heap.size W w' := by
  have t1 : decide ((n : Int) > 300) = false := by simp; omega
  by_cases h1 : most < 1
  · have t2 : decide (most < 1) = true := by simp; omega
    go_enter Try.func4, Try.ntmps4
    go_wp2_with fail
    refine (awake _).mono ?_
    rintro e w1 ⟨rfl, hb⟩
    go_wp2_with fail
    refine (new_bad most hm _).mono ?_
    rintro e w2 ⟨rfl, rfl⟩
    go_wp2
    go_ret
    exact ⟨rfl, hb⟩
  · have t2 : decide (most < 1) = false := by simp; omega
    have t3 : 64 < most := by omega
    have t4 : decide (most > 64) = true := by simp; omega
    go_enter Try.func4, Try.ntmps4
    go_wp2_with fail
    refine (awake _).mono ?_
    rintro e w1 ⟨rfl, hb⟩
    go_wp2_with fail
    refine (new_bad most hm _).mono ?_
    rintro e w2 ⟨rfl, rfl⟩
    go_wp2
    go_ret
    exact ⟨rfl, hb⟩

theorem row_C {W : World} {v : Value} {Q : List Int} (h : Row W v Q) (hl : Q.length ≤ 64) : ∃ A c, v = .slice A Q.length c ∧ Q.length ≤ c ∧ Kd.C (Kd.int .i64) W A Q.length Q := by
  rcases h with ⟨rfl, rfl⟩ | ⟨g, c, rfl, hc, hcell⟩
  · exact ⟨none, 0, rfl, Nat.le_refl _, Kd.C_nil _ _⟩
  · refine ⟨some ⟨g, 0, none⟩, c, rfl, hc, Kd.C_of_reads (d := 0) ⟨rfl, by omega, fun hn => ⟨_, rfl, fun j hj => ?_⟩⟩⟩
    have := hcell j (by omega)
    have e : (⟨g, 0, none⟩ : Addr).add j = ⟨g, j, none⟩ := by
      unfold Addr.add
      split
      · rename_i h0
        rw [h0]
      · simp
    rw [e]
    exact this
theorem add_block (ad : Addr) (k : Nat) : (ad.add k).block = ad.block := by
  unfold Addr.add
  split <;> rfl
/-- A row is read as before behind a store elsewhere. -/
theorem C_far {wx : World} {A : Option Addr} {n : Nat} {Q : List Int} (h : Kd.C (Kd.int .i64) wx A n Q) {p : Addr} (ha : 0 < n → ∀ ad, A = some ad → ad.block ≠ p.block) (u : Value) : Kd.C (Kd.int .i64) (wx.setCell p u) A n Q := by
  refine ⟨h.1, h.2.1, fun hn => ?_⟩
  obtain ⟨ad, e, h2⟩ := h.2.2 hn
  refine ⟨ad, e, fun j q hq => ?_⟩
  obtain ⟨c, h3, h4, h5⟩ := h2 j q hq
  refine ⟨c, h3, h4, fun i v hv => ?_⟩
  rw [← h5 i v hv]
  have hh := Below.heap_setCell wx p u ad.block (ha hn ad e)
  unfold World.cell?
  rw [add_block, hh]
theorem add_next (ad : Addr) (k : Nat) : (⟨(ad.add k).block, (ad.add k).off + 1, none⟩ : Addr) = ad.add (k + 1) := by
  unfold Addr.add
  by_cases h : k = 0
  · subst h
    simp
  · rw [if_neg h, if_neg (by omega)]
    simp [Nat.add_assoc]
theorem C_lt {wx : World} {A : Option Addr} {n : Nat} {Q : List Int} (h : Kd.C (Kd.int .i64) wx A n Q) (hn : 0 < n) (ad : Addr) (e : A = some ad) : ad.block < wx.heap.size := by
  obtain ⟨ad', e', h2⟩ := h.2.2 hn
  rw [e] at e'
  cases e'
  have hl : Q.length = n := h.1
  obtain ⟨q, hq⟩ : ∃ q, Q[0]? = some q := ⟨Q[0]'(by omega), by simp⟩
  obtain ⟨cs, h3, h4, h5⟩ := h2 0 q hq
  have h6 := h5 0 (.int .i64 q) (by rw [show cs = [.int .i64 q] from h4]; rfl)
  have h7 := World.block_lt_of_cell? wx _ h6
  rwa [add_block] at h7
/-- A row is read as before behind a turn of the ring. -/
theorem C_turn {w w' : World} {gb ga : Nat} {A : Option Addr} {n : Nat} {Q : List Int} (h : Kd.C (Kd.int .i64) w A n Q) (ht : Turn gb ga w w') (ha : ∀ ad, A = some ad → ad.block ≠ gb ∧ ad.block ≠ ga) : Kd.C (Kd.int .i64) w' A n Q := by
  refine ⟨h.1, h.2.1, fun hn => ?_⟩
  have hlt := C_lt h hn
  obtain ⟨ad, e, h2⟩ := h.2.2 hn
  have h0 := ha ad e
  refine ⟨ad, e, fun j q hq => ?_⟩
  obtain ⟨c, h3, h4, h5⟩ := h2 j q hq
  refine ⟨c, h3, h4, fun i v hv => ?_⟩
  rw [← h5 i v hv]
  have hh := ht.block ad.block (hlt ad e) (by omega)
  unfold World.cell?
  rw [add_block, hh]
/-- The queue of the document, in its box, beside the ring. -/
structure St (W wr : World) (gb ga most qb lostR : Nat) (QR : List Int) (lost : Nat) (A : Option Addr) (c : Nat) (Q : List Int) : Prop where
  q : Qu wr gb ga most QR lostR
  b : wr.heap[qb]? = some (.cells #[.int .i64 (most : Int), .int .i64 (lost : Int), .slice A Q.length c] 37 (0, 0))
  k : Q.length ≤ c
  r : Kd.C (Kd.int .i64) wr A Q.length Q
  be : Below W.heap.size W wr
  a : ∀ ad, A = some ad → ad.block ≠ gb ∧ ad.block ≠ ga ∧ ad.block ≠ qb
theorem Qu_far {w : World} {gb ga most lost : Nat} {Q : List Int} (h : Qu w gb ga most Q lost) {p : Addr} (h1 : gb ≠ p.block) (h2 : ga ≠ p.block) (u : Value) : Qu (w.setCell p u) gb ga most Q lost := by
  obtain ⟨vs, f, hR, hw⟩ := h
  exact ⟨vs, f, ⟨blk_far hR.box h1 _, blk_far hR.row h2 _, hR.len, hR.m1, hR.m2, hR.fl, hR.nl, hR.ll⟩, hw⟩
theorem Qu_lt {w : World} {gb ga most lost : Nat} {Q : List Int} (h : Qu w gb ga most Q lost) : gb < w.heap.size ∧ ga < w.heap.size := by
  obtain ⟨vs, f, hR, _⟩ := h
  exact ⟨blk_lt hR.box, blk_lt hR.row⟩
section
variable {W wx : World} {gb ga most qb lostR lost : Nat} {QR : List Int} {A : Option Addr} {c : Nat} {Q : List Int}
theorem St.step {w2 : World} (h : St W wx gb ga most qb lostR QR lost A c Q) (hb : Below wx.heap.size wx w2) : St W w2 gb ga most qb lostR QR lost A c Q :=
  ⟨h.q.step hb, blk_below h.b hb, h.k, Kd.C_below h.r hb, bthen h.be hb, h.a⟩
/-- A store elsewhere. -/
theorem St.far (h : St W wx gb ga most qb lostR QR lost A c Q) {p : Addr} (h1 : gb ≠ p.block) (h2 : ga ≠ p.block) (h3 : qb ≠ p.block) (h4 : 0 < Q.length → ∀ ad, A = some ad → ad.block ≠ p.block) (h5 : W.heap.size ≤ p.block) (u : Value) :
    St W (wx.setCell p u) gb ga most qb lostR QR lost A c Q :=
  ⟨Qu_far h.q h1 h2 u, blk_far h.b h3 u, h.k, C_far h.r h4 u, h.be.setCell h5 u, h.a⟩
/-- The queue and its box, and the box's cells. -/
structure Sx (W wx : World) (gb ga most qb lostR : Nat) (QR : List Int) (lost : Nat) (A : Option Addr) (c : Nat) (Q : List Int) : Prop where
  s : St W wx gb ga most qb lostR QR lost A c Q
  c0 : wx.cell? ⟨qb, 0, none⟩ = some (.int .i64 (most : Int))
  c1 : wx.cell? ⟨qb, 1, none⟩ = some (.int .i64 (lost : Int))
  c2 : wx.cell? ⟨qb, 2, none⟩ = some (.slice A Q.length c)
theorem St.full (h : St W wx gb ga most qb lostR QR lost A c Q) : Sx W wx gb ga most qb lostR QR lost A c Q :=
  ⟨h, blk_cell h.b 0, blk_cell h.b 1, blk_cell h.b 2⟩
/-- Behind 'q = p': the box holds the new queue. -/
theorem St.put {u0 u1 u2 : Value} (hq : Qu wx gb ga most QR lostR) (hb : wx.heap[qb]? = some (.cells #[u0, u1, u2] 37 (0, 0))) (n1 : gb ≠ qb) (n2 : ga ≠ qb) (hk : Q.length ≤ c) (hr : Kd.C (Kd.int .i64) wx A Q.length Q)
    (ha : ∀ ad, A = some ad → ad.block ≠ gb ∧ ad.block ≠ ga ∧ ad.block ≠ qb) (hB : Below W.heap.size W wx) (hqb : W.heap.size ≤ qb) :
    St W (((wx.setCell ⟨qb, 0, none⟩ (.int .i64 (most : Int))).setCell ⟨qb, 1, none⟩ (.int .i64 (lost : Int))).setCell ⟨qb, 2, none⟩ (.slice A Q.length c)) gb ga most qb lostR QR lost A c Q :=
  ⟨Qu_far (Qu_far (Qu_far hq (p := ⟨qb, 0, none⟩) n1 n2 _) (p := ⟨qb, 1, none⟩) n1 n2 _) (p := ⟨qb, 2, none⟩) n1 n2 _, blk_set (blk_set (blk_set hb 0 _) 1 _) 2 _, hk,
    C_far (C_far (C_far hr (p := ⟨qb, 0, none⟩) (fun _ ad e => (ha ad e).2.2) _) (p := ⟨qb, 1, none⟩) (fun _ ad e => (ha ad e).2.2) _) (p := ⟨qb, 2, none⟩) (fun _ ad e => (ha ad e).2.2) _,
    ((hB.setCell (p := ⟨qb, 0, none⟩) hqb _).setCell (p := ⟨qb, 1, none⟩) hqb _).setCell (p := ⟨qb, 2, none⟩) hqb _, ha⟩
end
theorem num_loop (Q : List Int) (hQ : Q.length ≤ 64) : ∀ k i : Nat, i ≤ Q.length → Q.length - i < k → lancetlaw14_Numbers.l0 k Q Q (i : Int) = some 1 := by
  intro k
  induction k with
  | zero => intro i h1 h2; omega
  | succ k ih =>
    intro i h1 h2
    unfold lancetlaw14_Numbers.l0
    by_cases hi : i < Q.length
    · have e : wrap64 ((i : Int) + 1) = ((i + 1 : Nat) : Int) := by unfold wrap64; omega
      rw [if_pos (by omega), if_pos (by omega), if_pos (by omega), if_pos rfl, e]
      exact ih (i + 1) (by omega) (by omega)
    · rw [if_neg (by omega)]
theorem num_same (Q : List Int) (hQ : Q.length ≤ 64) : lancetlaw14_Numbers.f 65 Q Q = some 1 := by
  unfold lancetlaw14_Numbers.f
  rw [if_pos rfl]
  exact num_loop Q hQ 65 0 (Nat.zero_le _) (by omega)
/-- The document's Take, in one. -/
theorem takeR (most lost : Nat) (A : Option Addr) (c : Nat) (Q : List Int) (h64 : Q.length ≤ 64) (hc : Q.length ≤ c) (W : World) (hC : Kd.C (Kd.int .i64) W A Q.length Q) :
    Calls Try.prog 21 #[.agg #[.int .i64 (most : Int), .int .i64 (lost : Int), .slice A Q.length c]] W fun e w' =>
      ∃ A' c', e = .returned (.tuple #[.agg #[.int .i64 (most : Int), .int .i64 (lost : Int), .slice A' Q.tail.length c'], .int .i64 (Q.headD 0), .bool (!Q.isEmpty)]) ∧ (∀ ad, A' = some ad → A = some ad ∨ W.heap.size ≤ ad.block) ∧ Q.tail.length ≤ c' ∧ Kd.C (Kd.int .i64) w' A' Q.tail.length Q.tail ∧ Below W.heap.size W w' := by
  cases Q with
  | nil =>
    refine (RingRef.take_none most lost A c W).mono ?_
    rintro e w' ⟨rfl, hb⟩
    exact ⟨A, c, rfl, fun ad h => .inl h, Nat.zero_le _, Kd.C_below hC hb, hb⟩
  | cons q Q =>
    obtain ⟨ad, rfl, _⟩ := hC.2.2 (by simp)
    refine (RingRef.take_one most lost ad c q Q Q.length rfl (by simp at h64; omega) (by simpa using hc) W hC).mono ?_
    rintro e w' ⟨A', c', rfl, h1, h2, h3, h4⟩
    exact ⟨A', c', rfl, fun ad h => .inr (h1 ad h), h2, h3, h4⟩
/-- The document's Put, in one. -/
theorem putR (most lost : Nat) (A : Option Addr) (c : Nat) (Q : List Int) (x : Int) (hl : lost < 1000) (hQ : Q.length ≤ most) (hm1 : 1 ≤ most) (h64 : most ≤ 64) (hc : Q.length ≤ c) (W : World) (hC : Kd.C (Kd.int .i64) W A Q.length Q) :
    Calls Try.prog 22 #[.agg #[.int .i64 (most : Int), .int .i64 (lost : Int), .slice A Q.length c], .int .i64 x] W fun e w' =>
      ∃ A' c', e = .returned (.tuple #[.agg #[.int .i64 (most : Int), .int .i64 ((putL most Q lost : Nat) : Int), .slice A' (putQ most Q x).length c'], .bool (decide (Q.length < most))]) ∧ (∀ ad, A' = some ad → W.heap.size ≤ ad.block) ∧ (putQ most Q x).length ≤ c' ∧ Kd.C (Kd.int .i64) w' A' (putQ most Q x).length (putQ most Q x) ∧ Below W.heap.size W w' := by
  by_cases h : Q.length < most
  · have d : decide (Q.length < most) = true := by simp [h]
    rw [d, putQ, putL, if_pos h, if_pos h, List.length_append, List.length_singleton]
    refine (RingRef.put_room most lost A c Q x Q.length rfl (by omega) h h64 hc W hC).mono ?_
    rintro e w' ⟨A', c', rfl, h1, h2, h3, h4⟩
    exact ⟨A', c', rfl, h1, h2, h3, h4⟩
  · have he : Q.length = most := by omega
    have d : decide (Q.length < most) = false := by simp; omega
    have hlen : (Q.tail ++ [x]).length = most := by rw [List.length_append, List.length_tail, List.length_singleton]; omega
    rw [d, putQ, putL, if_neg h, if_neg h, hlen, he]
    refine (RingRef.put_full most lost A c Q x most he h64 hm1 rfl (by omega) h64 (by omega) W (he ▸ hC)).mono ?_
    rintro e w' ⟨A', c', rfl, h1, h2, h3, h4⟩
    refine ⟨A', c', rfl, h1, h2, ?_, h4⟩
    have e9 : (Q ++ [x]).drop 1 = Q.tail ++ [x] := by
      cases Q with
      | nil => simp at he; omega
      | cons q Q => rfl
    rwa [e9] at h3
/-- Between two acts. -/
def Rel (W : World) (gb ga most qb N : Nat) (s8 : Value) (wr : World) : Prop :=
  ∃ (i lost : Nat) (A : Option Addr) (c : Nat) (Q : List Int), i ≤ N ∧ s8 = .int .i64 (i : Int) ∧ St W wr gb ga most qb lost Q lost A c Q ∧ lost ≤ i
/-- What the two orders of the region of Put leave. -/
def Fw (W : World) (gb ga most qb lostR : Nat) (QR : List Int) (lost : Nat) (A : Option Addr) (c : Nat) (Q Q2 : List Int) (s : Nat × Option Addr × Nat) (w' : World) : Prop :=
  St W w' gb ga most qb lostR QR lost A c Q ∧ w'.heap[s.1]? = some (.cells #[.int .i64 0, .int .i64 0, .slice none 0 0] 37 (0, 0)) ∧ Q2.length ≤ s.2.2 ∧ Kd.C (Kd.int .i64) w' s.2.1 Q2.length Q2 ∧
    gb ≠ s.1 ∧ ga ≠ s.1 ∧ qb ≠ s.1 ∧ W.heap.size ≤ s.1 ∧ (0 < Q.length → ∀ ad, A = some ad → ad.block ≠ s.1) ∧ (∀ ad, s.2.1 = some ad → ad.block ≠ s.1 ∧ ad.block ≠ gb ∧ ad.block ≠ ga ∧ ad.block ≠ qb)
set_option maxRecDepth 100000 in
set_option maxHeartbeats 2000000 in
theorem good (most : Nat) (hm1 : 1 ≤ most) (hm2 : most ≤ 64) (A : Option Addr) (n c : Nat) (h : n ≤ 300) (l : List (Bool × Int)) (hl : l.length = n) (hw : ∀ q ∈ l, (Lit.int .i64 q.2).wf = true) (W : World) (hA : Acts W A l) :
    Calls Try.prog 4 #[.int .i64 (most : Int), .slice A n c] W fun e w' => e = .returned (.bool true) ∧ Below W.heap.size W w' := by
  have t1 : decide ((n : Int) > 300) = false := by simp; omega
  have t2 : decide ((most : Int) < 1) = false := by simp; omega
  have t3 : decide ((most : Int) > 64) = false := by simp; omega
  have t4 : (most : Int) ≤ 64 := by omega
  have t5 : ¬ ((most : Int) < 1) := by omega
  have Hl := Lib.hid hl
  clear hl
  go_enter Try.func4, Try.ntmps4
  go_wp2_with fail
  refine (awake _).mono ?_
  rintro e w1 ⟨rfl, hb1⟩
  go_wp2_with fail
  refine (newQ most hm1 hm2 _).mono ?_
  rintro e w2 ⟨gb, ga, rfl, hq, hgb, hga, hb2⟩
  have hgb' : W.heap.size ≤ gb := Nat.le_trans hb1.size hgb
  have hga' : W.heap.size ≤ ga := Nat.le_trans hb1.size hga
  clear hgb hga
  have hB := bthen hb1 hb2
  have hnb : gb < w2.heap.size ∧ ga < w2.heap.size := by
    obtain ⟨vs, f, hR, _⟩ := hq
    exact ⟨blk_lt hR.box, blk_lt hR.row⟩
  clear hb1 hb2
  go_wp2_with fail
  have hal := below_alloc (Below.refl w2.heap.size w2) (.cells #[.int .i64 (most : Int), .int .i64 0, .slice none 0 0] 37)
  have hS : St W (w2.alloc (.cells #[.int .i64 (most : Int), .int .i64 0, .slice none 0 0] 37)) gb ga most w2.heap.size 0 [] 0 none 0 [] :=
    ⟨hq.step hal, blk_new _ _, Nat.le_refl _, Kd.C_nil _ _, bthen hB hal, fun ad h => by cases h⟩
  obtain ⟨qb, hqb⟩ : ∃ qb, qb = w2.heap.size := ⟨_, rfl⟩
  rw [← hqb] at hS hnb ⊢
  obtain ⟨hnb1, hnb2⟩ := hnb
  have hBq : W.heap.size ≤ qb := by rw [hqb]; exact hB.size
  clear hqb hq hB hal
  go_loopw [8] (Rel W gb ga most qb n) (fun i _ => n - (intOf i).toNat)
  case atStart => exact ⟨0, 0, none, 0, [], Nat.zero_le _, rfl, hS, Nat.le_refl _⟩
  case round =>
    clear hS
    obtain ⟨i, lost, A1, c1, Q, hi, rfl, hS, hli⟩ := hrel
    by_cases hlt : i < n
    · have il : i < l.length := by rw [Hl.out]; exact hlt
      obtain ⟨ad, rfl, ct0, cx0⟩ := hA i il
      obtain ⟨⟨t, x⟩, hp⟩ : ∃ p, l.getD i (false, 0) = p := ⟨_, rfl⟩
      rw [hp] at ct0 cx0
      rw [← add_next] at cx0
      clear hp
      have ct := (hS.be.cell (World.block_lt_of_cell? W _ ct0)).trans ct0
      have cx := (hS.be.cell (World.block_lt_of_cell? W _ cx0)).trans cx0
      have hfit := hS.q.fits
      cases t with
      | true =>
        go_wp2_with fail
        refine (RingQInt.take hS.q).mono ?_
        rintro e w3 ⟨rfl, hq3, ht3⟩
        obtain ⟨Q2, hQ2⟩ : ∃ Q2, Q2 = Q.tail := ⟨_, rfl⟩
        obtain ⟨y, hy⟩ : ∃ y, y = Q.headD 0 := ⟨_, rfl⟩
        obtain ⟨bb, hbb⟩ : ∃ bb, bb = !Q.isEmpty := ⟨_, rfl⟩
        have HQ2 := Lib.hid hQ2
        have Hy := Lib.hid hy
        have Hbb := Lib.hid hbb
        clear hQ2 hy hbb
        rw [← Hy.out, ← Hbb.out]
        rw [← HQ2.out] at hq3
        have hB3 := ht3.up hS.be hgb' hga'
        have hb3 := (ht3.block qb (blk_lt hS.b) (by omega)).trans hS.b
        have hr3 : Kd.C (Kd.int .i64) w3 A1 Q.length Q := C_turn hS.r ht3 (fun ad h => ⟨(hS.a ad h).1, (hS.a ad h).2.1⟩)
        have b0 : w3.cell? ⟨qb, 0, none⟩ = some (.int .i64 (most : Int)) := blk_cell hb3 0
        have b1 : w3.cell? ⟨qb, 1, none⟩ = some (.int .i64 (lost : Int)) := blk_cell hb3 1
        have b2 : w3.cell? ⟨qb, 2, none⟩ = some (.slice A1 Q.length c1) := blk_cell hb3 2
        go_wp2_with fail
        refine (takeR most lost A1 c1 Q (by omega) hS.k _ hr3).mono ?_
        rintro e w4 ⟨A2, c2, rfl, ha4, hk4, hr4, hb4⟩
        rw [← Hy.out, ← Hbb.out, ← HQ2.out]
        rw [← HQ2.out] at hk4 hr4
        have hqb3 := blk_lt hb3
        have hb5 := blk_below hb3 hb4
        have hq5 := hq3.step hb4
        have hB5 := bthen hB3 hb4
        have hlt3 := Qu_lt hq3
        have ha5 : ∀ ad, A2 = some ad → ad.block ≠ gb ∧ ad.block ≠ ga ∧ ad.block ≠ qb := by
          intro ad h
          rcases ha4 ad h with h1 | h1
          · exact hS.a ad h1
          · omega
        have d0 : w4.cell? ⟨qb, 0, none⟩ = some (.int .i64 (most : Int)) := blk_cell hb5 0
        have d1 : w4.cell? ⟨qb, 1, none⟩ = some (.int .i64 (lost : Int)) := blk_cell hb5 1
        have d2 : w4.cell? ⟨qb, 2, none⟩ = some (.slice A1 Q.length c1) := blk_cell hb5 2
        have f0 : w4.frozen? ⟨qb, 0, none⟩ = false := blk_frozen hb5 0
        have f1 : w4.frozen? ⟨qb, 1, none⟩ = false := blk_frozen hb5 1
        have f2 : w4.frozen? ⟨qb, 2, none⟩ = false := blk_frozen hb5 2
        have n1 : ¬ qb = w4.heap.size := by have := blk_lt hb5; omega
        have n2 : ¬ w4.heap.size = qb := by have := blk_lt hb5; omega
        have n3 : qb < w4.heap.size := blk_lt hb5
        have hlen2 : Q2.length ≤ 64 := by rw [HQ2.out, List.length_tail]; omega
        have hS1 := St.put (lost := lost) (c := c2) hq5 hb5 (by omega) (by omega) hk4 hr4 ha5 hB5 hBq
        clear hr4 hb5 hq5 hB5 hk4 ha4 ha5
        go_wp2_with fail
        have hS2 := hS1.step (below_alloc (Below.refl _ _) (.cells #[.int .i64 (most : Int), .int .i64 (lost : Int), .slice A2 Q2.length c2] 37))
        clear hS1
        refine start_ (n := 21) (S := fun wx => Sx W wx gb ga most qb lost Q2 lost A2 c2 Q2) (ds := []) #[false, false, false, false, false, false, false, false, false, false, false, false, false, false, false, false, false, false, false, false, false] (by kernel_rfl) rfl rfl ((hS2.step (below_drew (Below.refl _ _))).full) (fun hHeld => ?_)
        refine pure_ (i := 0) (N := some 102) (v := ?_) (a' := ?_) #[true, false, false, false, false, false, false, false, false, false, false, false, false, false, false, false, false, false, false, false, false] rfl rfl (by kernel_rfl) (fun _ _ _ h => h) (Or.inl ⟨by rfl, ?_⟩) ?_ ?_
        rotate_left
        · intro w'
          go_simp
          try with_reducible rfl
        rotate_left
        · simp only [Act.put, List.setIfInBounds_toArray, List.set_cons_zero, List.set_cons_succ, i64_w, i32_w]
          rfl
        refine pure_ (i := 2) (N := some 104) (v := ?_) (a' := ?_) #[true, false, true, false, false, false, false, false, false, false, false, false, false, false, false, false, false, false, false, false, false] rfl rfl (by kernel_rfl) (fun _ _ _ h => h) (Or.inl ⟨by rfl, ?_⟩) ?_ ?_
        rotate_left
        · intro w'
          go_simp
          try with_reducible rfl
        rotate_left
        · simp only [Act.put, List.setIfInBounds_toArray, List.set_cons_zero, List.set_cons_succ, i64_w, i32_w]
          rfl
        refine take_ (i := 3) (N := some 105) (v := ?_) (a' := ?_) #[true, false, true, true, false, false, false, false, false, false, false, false, false, false, false, false, false, false, false, false, false] rfl rfl (by kernel_rfl) (fun _ _ _ h => h) (Or.inl ⟨by rfl, ?_⟩) hHeld ?_ ?_
        rotate_left
        · rintro w' ⟨_, _, s1, s2⟩
          go_simp
          with_reducible rfl
        rotate_left
        · simp only [Act.put, List.setIfInBounds_toArray, List.set_cons_zero, List.set_cons_succ, i64_w, i32_w]
          rfl
        refine pure_ (i := 4) (N := some 106) (v := ?_) (a' := ?_) #[true, false, true, true, true, false, false, false, false, false, false, false, false, false, false, false, false, false, false, false, false] rfl rfl (by kernel_rfl) (fun _ _ _ h => h) (Or.inl ⟨by rfl, ?_⟩) ?_ ?_
        rotate_left
        · intro w'
          go_simp
          try with_reducible rfl
        rotate_left
        · simp only [Act.put, List.setIfInBounds_toArray, List.set_cons_zero, List.set_cons_succ, i64_w, i32_w]
          rfl
        refine one_ (i := 1) (N := some 103) #[true, true, true, true, true, false, false, false, false, false, false, false, false, false, false, false, false, false, false, false, false] rfl rfl (by kernel_rfl) (by decide) (fun K hK => ?_)
        refine goes_ Try.func23 (by kernel_rfl) rfl #[.pointer (some ⟨gb, 0, none⟩)] (by rfl) rfl rfl (by (try simp only [List.map_toArray, List.map_cons, List.map_nil]); first | done | rfl) ?_
        refine (RingQInt.lenQ hHeld.s.q).mono ?_
        rintro e wA ⟨rfl, hbA⟩
        refine ⟨_, rfl, ?_⟩
        refine hK.out _ _ ((hHeld.s.step hbA).full) (fun hHeld => ?_)
        clear hK K
        refine norm_ (a' := ?_) ?_ ?_
        rotate_left
        · show Act.put _ (some 103) _ = _
          simp only [Act.put, List.setIfInBounds_toArray, List.set_cons_zero, List.set_cons_succ, i64_w, i32_w]
          rfl
        refine pure_ (i := 5) (N := some 107) (v := ?_) (a' := ?_) #[true, true, true, true, true, true, false, false, false, false, false, false, false, false, false, false, false, false, false, false, false] rfl rfl (by kernel_rfl) (fun _ _ _ h => h) (Or.inl ⟨by rfl, ?_⟩) ?_ ?_
        rotate_left
        · intro w'
          go_simp
          try with_reducible rfl
        rotate_left
        · simp only [Act.put, List.setIfInBounds_toArray, List.set_cons_zero, List.set_cons_succ, i64_w, i32_w]
          rfl
        refine pure_ (i := 6) (N := some 108) (v := ?_) (a' := ?_) #[true, true, true, true, true, true, true, false, false, false, false, false, false, false, false, false, false, false, false, false, false] rfl rfl (by kernel_rfl) (fun _ _ _ h => h) (Or.inl ⟨by rfl, ?_⟩) ?_ ?_
        rotate_left
        · intro w'
          go_simp
          try with_reducible rfl
        rotate_left
        · simp only [Act.put, List.setIfInBounds_toArray, List.set_cons_zero, List.set_cons_succ, i64_w, i32_w]
          rfl
        refine pure_ (i := 7) (N := some 109) (v := ?_) (a' := ?_) #[true, true, true, true, true, true, true, true, false, false, false, false, false, false, false, false, false, false, false, false, false] rfl rfl (by kernel_rfl) (fun _ _ _ h => h) (Or.inl ⟨by rfl, ?_⟩) ?_ ?_
        rotate_left
        · intro w'
          go_simp
          try with_reducible rfl
        rotate_left
        · simp only [Act.put, List.setIfInBounds_toArray, List.set_cons_zero, List.set_cons_succ, i64_w, i32_w]
          rfl
        refine pure_ (i := 9) (N := some 111) (v := ?_) (a' := ?_) #[true, true, true, true, true, true, true, true, false, true, false, false, false, false, false, false, false, false, false, false, false] rfl rfl (by kernel_rfl) (fun _ _ _ h => h) (Or.inl ⟨by rfl, ?_⟩) ?_ ?_
        rotate_left
        · intro w'
          go_simp
          try with_reducible rfl
        rotate_left
        · simp only [Act.put, List.setIfInBounds_toArray, List.set_cons_zero, List.set_cons_succ, i64_w, i32_w]
          rfl
        refine take_ (i := 10) (N := some 112) (v := ?_) (a' := ?_) #[true, true, true, true, true, true, true, true, false, true, true, false, false, false, false, false, false, false, false, false, false] rfl rfl (by kernel_rfl) (fun _ _ _ h => h) (Or.inl ⟨by rfl, ?_⟩) hHeld ?_ ?_
        rotate_left
        · rintro w' ⟨_, _, s1, s2⟩
          go_simp
          with_reducible rfl
        rotate_left
        · simp only [Act.put, List.setIfInBounds_toArray, List.set_cons_zero, List.set_cons_succ, i64_w, i32_w]
          rfl
        refine one_ (i := 8) (N := some 110) #[true, true, true, true, true, true, true, true, true, true, true, false, false, false, false, false, false, false, false, false, false] rfl rfl (by kernel_rfl) (by decide) (fun K hK => ?_)
        refine goes_ Try.func24 (by kernel_rfl) rfl #[.pointer (some ⟨gb, 0, none⟩)] (by rfl) rfl rfl (by (try simp only [List.map_toArray, List.map_cons, List.map_nil]); first | done | rfl) ?_
        refine (RingQInt.lostQ hHeld.s.q).mono ?_
        rintro e wB ⟨rfl, hbB⟩
        refine ⟨_, rfl, ?_⟩
        refine hK.out _ _ ((hHeld.s.step hbB).full) (fun hHeld => ?_)
        clear hK K
        refine norm_ (a' := ?_) ?_ ?_
        rotate_left
        · show Act.put _ (some 110) _ = _
          simp only [Act.put, List.setIfInBounds_toArray, List.set_cons_zero, List.set_cons_succ, i64_w, i32_w]
          rfl
        refine pure_ (i := 11) (N := some 113) (v := ?_) (a' := ?_) #[true, true, true, true, true, true, true, true, true, true, true, true, false, false, false, false, false, false, false, false, false] rfl rfl (by kernel_rfl) (fun _ _ _ h => h) (Or.inl ⟨by rfl, ?_⟩) ?_ ?_
        rotate_left
        · intro w'
          go_simp
          try with_reducible rfl
        rotate_left
        · simp only [Act.put, List.setIfInBounds_toArray, List.set_cons_zero, List.set_cons_succ, i64_w, i32_w]
          rfl
        refine pure_ (i := 12) (N := some 114) (v := ?_) (a' := ?_) #[true, true, true, true, true, true, true, true, true, true, true, true, true, false, false, false, false, false, false, false, false] rfl rfl (by kernel_rfl) (fun _ _ _ h => h) (Or.inl ⟨by rfl, ?_⟩) ?_ ?_
        rotate_left
        · intro w'
          go_simp
          try with_reducible rfl
        rotate_left
        · simp only [Act.put, List.setIfInBounds_toArray, List.set_cons_zero, List.set_cons_succ, i64_w, i32_w]
          rfl
        refine pure_ (i := 13) (N := some 115) (v := ?_) (a' := ?_) #[true, true, true, true, true, true, true, true, true, true, true, true, true, true, false, false, false, false, false, false, false] rfl rfl (by kernel_rfl) (fun _ _ _ h => h) (Or.inl ⟨by rfl, ?_⟩) ?_ ?_
        rotate_left
        · intro w'
          go_simp
          try with_reducible rfl
        rotate_left
        · simp only [Act.put, List.setIfInBounds_toArray, List.set_cons_zero, List.set_cons_succ, i64_w, i32_w]
          rfl
        refine pure_ (i := 14) (N := some 116) (v := ?_) (a' := ?_) #[true, true, true, true, true, true, true, true, true, true, true, true, true, true, true, false, false, false, false, false, false] rfl rfl (by kernel_rfl) (fun _ _ _ h => h) (Or.inl ⟨by rfl, ?_⟩) ?_ ?_
        rotate_left
        · intro w'
          go_simp
          try with_reducible rfl
        rotate_left
        · simp only [Act.put, List.setIfInBounds_toArray, List.set_cons_zero, List.set_cons_succ, i64_w, i32_w]
          rfl
        refine pure_ (i := 16) (N := some 118) (v := ?_) (a' := ?_) #[true, true, true, true, true, true, true, true, true, true, true, true, true, true, true, false, true, false, false, false, false] rfl rfl (by kernel_rfl) (fun _ _ _ h => h) (Or.inl ⟨by rfl, ?_⟩) ?_ ?_
        rotate_left
        · intro w'
          go_simp
          try with_reducible rfl
        rotate_left
        · simp only [Act.put, List.setIfInBounds_toArray, List.set_cons_zero, List.set_cons_succ, i64_w, i32_w]
          rfl
        refine take_ (i := 17) (N := some 119) (v := ?_) (a' := ?_) #[true, true, true, true, true, true, true, true, true, true, true, true, true, true, true, false, true, true, false, false, false] rfl rfl (by kernel_rfl) (fun _ _ _ h => h) (Or.inl ⟨by rfl, ?_⟩) hHeld ?_ ?_
        rotate_left
        · rintro w' ⟨_, _, s1, s2⟩
          go_simp
          with_reducible rfl
        rotate_left
        · simp only [Act.put, List.setIfInBounds_toArray, List.set_cons_zero, List.set_cons_succ, i64_w, i32_w]
          rfl
        refine one_ (i := 15) (N := some 117) #[true, true, true, true, true, true, true, true, true, true, true, true, true, true, true, true, true, true, false, false, false] rfl rfl (by kernel_rfl) (by decide) (fun K hK => ?_)
        refine goes_ Try.func20 (by kernel_rfl) rfl #[.pointer (some ⟨gb, 0, none⟩)] (by rfl) rfl rfl (by (try simp only [List.map_toArray, List.map_cons, List.map_nil]); first | done | rfl) ?_
        refine (RingQInt.listQ hHeld.s.q).mono ?_
        rintro e wC ⟨vC, rfl, hrC, hbC⟩
        refine ⟨_, rfl, ?_⟩
        obtain ⟨AC, cC, eC, hkC, hCC⟩ := row_C hrC hlen2
        subst eC
        refine hK.out _ _ ((hHeld.s.step hbC).full) (fun hHeld => ?_)
        clear hK K
        refine norm_ (a' := ?_) ?_ ?_
        rotate_left
        · show Act.put _ (some 117) _ = _
          simp only [Act.put, List.setIfInBounds_toArray, List.set_cons_zero, List.set_cons_succ, i64_w, i32_w]
          rfl
        refine one_ (i := 18) (N := some 120) #[true, true, true, true, true, true, true, true, true, true, true, true, true, true, true, true, true, true, true, false, false] rfl rfl (by kernel_rfl) (by decide) (fun K hK => ?_)
        refine goes_ Try.func25 (by kernel_rfl) rfl #[.slice AC Q2.length cC, .slice A2 Q2.length c2] (by rfl) rfl rfl (by (try simp only [List.map_toArray, List.map_cons, List.map_nil]); first | done | rfl) ?_
        refine (lancetlaw14_Numbers.calls 65 AC cC Q2 A2 c2 Q2 1 _ hCC hkC hHeld.s.r hHeld.s.k (num_same Q2 hlen2)).mono ?_
        rintro e wD ⟨rfl, hbD⟩
        refine ⟨_, rfl, ?_⟩
        refine hK.out _ _ ((hHeld.s.step hbD.below).full) (fun hHeld => ?_)
        clear hK K
        refine norm_ (a' := ?_) ?_ ?_
        rotate_left
        · show Act.put _ (some 120) _ = _
          simp only [Act.put, List.setIfInBounds_toArray, List.set_cons_zero, List.set_cons_succ, i64_w, i32_w]
          rfl
        refine pure_ (i := 19) (N := some 121) (v := ?_) (a' := ?_) #[true, true, true, true, true, true, true, true, true, true, true, true, true, true, true, true, true, true, true, true, false] rfl rfl (by kernel_rfl) (fun _ _ _ h => h) (Or.inl ⟨by rfl, ?_⟩) ?_ ?_
        rotate_left
        · intro w'
          go_simp
          try with_reducible rfl
        rotate_left
        · simp only [Act.put, List.setIfInBounds_toArray, List.set_cons_zero, List.set_cons_succ, i64_w, i32_w]
          rfl
        refine pure_ (i := 20) (N := some 122) (v := ?_) (a' := ?_) #[true, true, true, true, true, true, true, true, true, true, true, true, true, true, true, true, true, true, true, true, true] rfl rfl (by kernel_rfl) (fun _ _ _ h => h) (Or.inl ⟨by rfl, ?_⟩) ?_ ?_
        rotate_left
        · intro w'
          go_simp
          try with_reducible rfl
        rotate_left
        · simp only [Act.put, List.setIfInBounds_toArray, List.set_cons_zero, List.set_cons_succ, i64_w, i32_w]
          rfl
        refine done_ (by kernel_rfl) ?_
        have hS9 := hHeld.s
        clear hHeld hS2
        go_wp2_with fail
        refine ⟨⟨i + 1, lost, A2, c2, Q2, by omega, by simp, hS9, by omega⟩, ?_⟩
        simp [intOf]
        omega
      | false =>
        have CX := Lib.hid (fun (wx : World) (hb : Below W.heap.size W wx) => (hb.cell (World.block_lt_of_cell? W _ cx0)).trans cx0)
        go_wp2_with fail
        refine (RingQInt.put hS.q (by omega) x).mono ?_
        rintro e w3 ⟨rfl, hq3, ht3⟩
        obtain ⟨Q2, hQ2⟩ : ∃ Q2, Q2 = putQ most Q x := ⟨_, rfl⟩
        obtain ⟨lo2, hlo⟩ : ∃ lo2, lo2 = RingQInt.putL most Q lost := ⟨_, rfl⟩
        obtain ⟨bb, hbb⟩ : ∃ bb, bb = decide (Q.length < most) := ⟨_, rfl⟩
        have HQ2 := Lib.hid hQ2
        have Hlo := Lib.hid hlo
        have Hbb := Lib.hid hbb
        clear hQ2 hlo hbb
        rw [← Hbb.out]
        rw [← HQ2.out, ← Hlo.out] at hq3
        have hpos : 0 < Q2.length := by
          rw [HQ2.out]
          unfold putQ
          split <;> simp
        have hlen2 : Q2.length ≤ 64 := by
          have := putQ_length hfit.1 hfit.2.1 x
          rw [HQ2.out]
          omega
        have hlo2 : lo2 ≤ i + 1 := by
          rw [Hlo.out]
          unfold RingQInt.putL
          split <;> omega
        have hB3 := ht3.up hS.be hgb' hga'
        have hb3 := (ht3.block qb (blk_lt hS.b) (by omega)).trans hS.b
        have hr3 : Kd.C (Kd.int .i64) w3 A1 Q.length Q := C_turn hS.r ht3 (fun ad h => ⟨(hS.a ad h).1, (hS.a ad h).2.1⟩)
        have hS3 : St W w3 gb ga most qb lo2 Q2 lost A1 c1 Q := ⟨hq3, hb3, hS.k, hr3, hB3, hS.a⟩
        clear hq3 ht3 hB3 hb3 hr3 hS
        go_wp2_with fail
        refine start_ (n := 13) (S := fun wx => Sx W wx gb ga most qb lo2 Q2 lost A1 c1 Q ∧ wx.cell? ⟨(ad.add (i * 2)).block, (ad.add (i * 2)).off + 1, none⟩ = some (.int .i64 x)) (ds := []) #[false, false, false, false, false, false, false, false, false, false, false, false, false] (by kernel_rfl) rfl rfl ⟨(hS3.step (below_drew (Below.refl _ _))).full, CX.out _ (hS3.step (below_drew (Below.refl _ _))).be⟩ (fun hHeld => ?_)
        refine take_ (i := 0) (N := some 89) (v := ?_) (a' := ?_) #[true, false, false, false, false, false, false, false, false, false, false, false, false] rfl rfl (by kernel_rfl) (fun _ _ _ h => h) (Or.inl ⟨by rfl, ?_⟩) hHeld ?_ ?_
        rotate_left
        · rintro w' ⟨⟨_, s0, s1, s2⟩, s3⟩
          go_simp
          with_reducible rfl
        rotate_left
        · simp only [Act.put, List.setIfInBounds_toArray, List.set_cons_zero, List.set_cons_succ, i64_w, i32_w]
          rfl
        refine pure_ (i := 1) (N := some 90) (v := ?_) (a' := ?_) #[true, true, false, false, false, false, false, false, false, false, false, false, false] rfl rfl (by kernel_rfl) (fun _ _ _ h => h) (Or.inl ⟨by rfl, ?_⟩) ?_ ?_
        rotate_left
        · intro w'
          go_simp
          try with_reducible rfl
        rotate_left
        · simp only [Act.put, List.setIfInBounds_toArray, List.set_cons_zero, List.set_cons_succ, i64_w, i32_w]
          rfl
        refine pure_ (i := 2) (N := some 91) (v := ?_) (a' := ?_) #[true, true, true, false, false, false, false, false, false, false, false, false, false] rfl rfl (by kernel_rfl) (fun _ _ _ h => h) (Or.inl ⟨by rfl, ?_⟩) ?_ ?_
        rotate_left
        · intro w'
          go_simp
          try with_reducible rfl
        rotate_left
        · simp only [Act.put, List.setIfInBounds_toArray, List.set_cons_zero, List.set_cons_succ, i64_w, i32_w]
          rfl
        refine pure_ (i := 3) (N := some 92) (v := ?_) (a' := ?_) #[true, true, true, true, false, false, false, false, false, false, false, false, false] rfl rfl (by kernel_rfl) (fun _ _ _ h => h) (Or.inl ⟨by rfl, ?_⟩) ?_ ?_
        rotate_left
        · intro w'
          go_simp
          try with_reducible rfl
        rotate_left
        · simp only [Act.put, List.setIfInBounds_toArray, List.set_cons_zero, List.set_cons_succ, i64_w, i32_w]
          rfl
        refine pure_ (i := 4) (N := some 93) (v := ?_) (a' := ?_) #[true, true, true, true, true, false, false, false, false, false, false, false, false] rfl rfl (by kernel_rfl) (fun _ _ _ h => h) (Or.inl ⟨by rfl, ?_⟩) ?_ ?_
        rotate_left
        · intro w'
          go_simp
          try with_reducible rfl
        rotate_left
        · simp only [Act.put, List.setIfInBounds_toArray, List.set_cons_zero, List.set_cons_succ, i64_w, i32_w]
          rfl
        refine take_ (i := 5) (N := some 94) (v := ?_) (a' := ?_) #[true, true, true, true, true, true, false, false, false, false, false, false, false] rfl rfl (by kernel_rfl) (fun _ _ _ h => h) (Or.inl ⟨by rfl, ?_⟩) hHeld ?_ ?_
        rotate_left
        · rintro w' ⟨⟨_, s0, s1, s2⟩, s3⟩
          go_simp
          with_reducible rfl
        rotate_left
        · simp only [Act.put, List.setIfInBounds_toArray, List.set_cons_zero, List.set_cons_succ, i64_w, i32_w]
          rfl
        refine join_ (σ := Nat × Option Addr × Nat) 2 #[true, true, true, true, true, true, true, true, true, true, true, false, false] (fun s => [(95, (.tuple #[.agg #[.int .i64 (most : Int), .int .i64 (lo2 : Int), .slice s.2.1 Q2.length s.2.2], .bool bb])), (88, (.tuple #[.agg #[.int .i64 (most : Int), .int .i64 (lo2 : Int), .slice s.2.1 Q2.length s.2.2], .bool bb])), (96, (.agg #[.int .i64 (most : Int), .int .i64 (lo2 : Int), .slice s.2.1 Q2.length s.2.2])), (97, .bool bb), (15, .pointer (some ⟨s.1, 0, none⟩))]) (Fw W gb ga most qb lo2 Q2 lost A1 c1 Q Q2) ?hcont ?hboth
        case hboth =>
          intro hj
          refine two_ (i := 6) (j := 10) (Ni := some 95) (Nj := some 15) #[true, true, true, true, true, true, true, false, false, false, false, false, false] #[true, true, true, true, true, true, false, false, false, false, true, false, false] rfl rfl rfl rfl (by kernel_rfl) (by decide) (by decide) (fun K hK => ?_) (fun K hK => ?_)
          · refine goes_ Try.func22 (by kernel_rfl) rfl #[.agg #[.int .i64 (most : Int), .int .i64 (lost : Int), .slice A1 Q.length c1], .int .i64 x] (by rfl) rfl rfl (by (try simp only [List.map_toArray, List.map_cons, List.map_nil]); first | done | rfl) ?_
            refine (putR most lost A1 c1 Q x (by omega) hfit.1 hm1 hm2 hHeld.1.s.k _ hHeld.1.s.r).mono ?_
            rintro e w5 ⟨A2, c2, rfl, ha5, hk5, hr5, hb5⟩
            rw [← Hbb.out, ← HQ2.out, ← Hlo.out]
            rw [← HQ2.out] at hk5 hr5
            have hS5 := hHeld.1.s.step hb5
            have hq0 := Qu_lt hHeld.1.s.q
            have hqb0 := blk_lt hHeld.1.s.b
            have ha6 : ∀ ad, A2 = some ad → ad.block ≠ gb ∧ ad.block ≠ ga ∧ ad.block ≠ qb := by
              intro ad h
              have h1 := ha5 ad h
              omega
            refine ⟨_, rfl, ?_⟩
            refine hK.out _ _ ⟨(hHeld.1.s.step hb5).full, CX.out _ (hHeld.1.s.step hb5).be⟩ (fun hHeld2 => ?_)
            clear hK K
            refine norm_ (a' := ?_) ?_ ?_
            rotate_left
            · show Act.put _ (some 95) _ = _
              simp only [Act.put, List.setIfInBounds_toArray, List.set_cons_zero, List.set_cons_succ, i64_w, i32_w]
              rfl
            refine pure_ (i := 7) (N := some 88) (v := ?_) (a' := ?_) #[true, true, true, true, true, true, true, true, false, false, false, false, false] rfl rfl (by kernel_rfl) (fun _ _ _ h => h) (Or.inl ⟨by rfl, ?_⟩) ?_ ?_
            rotate_left
            · intro w'
              go_simp
              try with_reducible rfl
            rotate_left
            · simp only [Act.put, List.setIfInBounds_toArray, List.set_cons_zero, List.set_cons_succ, i64_w, i32_w]
              rfl
            refine pure_ (i := 8) (N := some 96) (v := ?_) (a' := ?_) #[true, true, true, true, true, true, true, true, true, false, false, false, false] rfl rfl (by kernel_rfl) (fun _ _ _ h => h) (Or.inl ⟨by rfl, ?_⟩) ?_ ?_
            rotate_left
            · intro w'
              go_simp
              try with_reducible rfl
            rotate_left
            · simp only [Act.put, List.setIfInBounds_toArray, List.set_cons_zero, List.set_cons_succ, i64_w, i32_w]
              rfl
            refine pure_ (i := 9) (N := some 97) (v := ?_) (a' := ?_) #[true, true, true, true, true, true, true, true, true, true, false, false, false] rfl rfl (by kernel_rfl) (fun _ _ _ h => h) (Or.inl ⟨by rfl, ?_⟩) ?_ ?_
            rotate_left
            · intro w'
              go_simp
              try with_reducible rfl
            rotate_left
            · simp only [Act.put, List.setIfInBounds_toArray, List.set_cons_zero, List.set_cons_succ, i64_w, i32_w]
              rfl
            refine one_ (i := 10) (N := some 15) #[true, true, true, true, true, true, true, true, true, true, true, false, false] rfl rfl (by kernel_rfl) (by decide) (fun K hK => ?_)
            refine box_step (by rfl) (N := 15) rfl (cs := #[.int .i64 0, .int .i64 0, .slice none 0 0]) (t := 37) ?_ ?_
            · first
                | (go_simp; done)
                | (go_simp; rfl)
            intro p hp w6 hb6 hB6
            have hS6 := hS5.step hB6
            refine hK.out _ _ ⟨hS6.full, CX.out _ hS6.be⟩ (fun hHeld3 => ?_)
            clear hK K
            have hq5 := Qu_lt hS5.q
            have hqb5 := blk_lt hS5.b
            have hW5 := hS5.be.size
            have hl1 := C_lt hS5.r
            have hl2 := C_lt hr5 hpos
            exact norm_ (by rfl) (hj (p, A2, c2) w6 ⟨hS6, hb6, hk5, Kd.C_below hr5 hB6, by show gb ≠ p; omega, by show ga ≠ p; omega, by show qb ≠ p; omega, by show W.heap.size ≤ p; omega,
              fun h0 ad h => by have := hl1 h0 ad h; show ad.block ≠ p; omega, fun ad h => ⟨by have := hl2 ad h; show ad.block ≠ p; omega, ha6 ad h⟩⟩)
          · refine box_step (by rfl) (N := 15) rfl (cs := #[.int .i64 0, .int .i64 0, .slice none 0 0]) (t := 37) ?_ ?_
            · first
                | (go_simp; done)
                | (go_simp; rfl)
            intro p hp w6 hb6 hB6
            have hS6 := hHeld.1.s.step hB6
            have hq5 := Qu_lt hHeld.1.s.q
            have hqb5 := blk_lt hHeld.1.s.b
            have hW5 := hHeld.1.s.be.size
            have hl1 := C_lt hHeld.1.s.r
            refine hK.out _ _ ⟨hS6.full, CX.out _ hS6.be⟩ (fun hHeld3 => ?_)
            clear hK K
            refine norm_ (a' := ?_) ?_ ?_
            rotate_left
            · show Act.put _ (some 15) _ = _
              simp only [Act.put, List.setIfInBounds_toArray, List.set_cons_zero, List.set_cons_succ, i64_w, i32_w]
              rfl
            refine one_ (i := 6) (N := some 95) #[true, true, true, true, true, true, true, false, false, false, true, false, false] rfl rfl (by kernel_rfl) (by decide) (fun K hK => ?_)
            refine goes_ Try.func22 (by kernel_rfl) rfl #[.agg #[.int .i64 (most : Int), .int .i64 (lost : Int), .slice A1 Q.length c1], .int .i64 x] (by rfl) rfl rfl (by (try simp only [List.map_toArray, List.map_cons, List.map_nil]); first | done | rfl) ?_
            refine (putR most lost A1 c1 Q x (by omega) hfit.1 hm1 hm2 hS6.k _ hS6.r).mono ?_
            rintro e w5 ⟨A2, c2, rfl, ha5, hk5, hr5, hb5⟩
            rw [← Hbb.out, ← HQ2.out, ← Hlo.out]
            rw [← HQ2.out] at hk5 hr5
            have hS5 := hS6.step hb5
            have hlt6 := blk_lt hb6
            have ha6 : ∀ ad, A2 = some ad → ad.block ≠ p ∧ ad.block ≠ gb ∧ ad.block ≠ ga ∧ ad.block ≠ qb := by
              intro ad h
              have h1 := ha5 ad h
              omega
            refine ⟨_, rfl, ?_⟩
            refine hK.out _ _ ⟨hS5.full, CX.out _ hS5.be⟩ (fun hHeld2 => ?_)
            clear hK K
            refine norm_ (a' := ?_) ?_ ?_
            rotate_left
            · show Act.put _ (some 95) _ = _
              simp only [Act.put, List.setIfInBounds_toArray, List.set_cons_zero, List.set_cons_succ, i64_w, i32_w]
              rfl
            refine pure_ (i := 7) (N := some 88) (v := ?_) (a' := ?_) #[true, true, true, true, true, true, true, true, false, false, true, false, false] rfl rfl (by kernel_rfl) (fun _ _ _ h => h) (Or.inl ⟨by rfl, ?_⟩) ?_ ?_
            rotate_left
            · intro w'
              go_simp
              try with_reducible rfl
            rotate_left
            · simp only [Act.put, List.setIfInBounds_toArray, List.set_cons_zero, List.set_cons_succ, i64_w, i32_w]
              rfl
            refine pure_ (i := 8) (N := some 96) (v := ?_) (a' := ?_) #[true, true, true, true, true, true, true, true, true, false, true, false, false] rfl rfl (by kernel_rfl) (fun _ _ _ h => h) (Or.inl ⟨by rfl, ?_⟩) ?_ ?_
            rotate_left
            · intro w'
              go_simp
              try with_reducible rfl
            rotate_left
            · simp only [Act.put, List.setIfInBounds_toArray, List.set_cons_zero, List.set_cons_succ, i64_w, i32_w]
              rfl
            refine pure_ (i := 9) (N := some 97) (v := ?_) (a' := ?_) #[true, true, true, true, true, true, true, true, true, true, true, false, false] rfl rfl (by kernel_rfl) (fun _ _ _ h => h) (Or.inl ⟨by rfl, ?_⟩) ?_ ?_
            rotate_left
            · intro w'
              go_simp
              try with_reducible rfl
            rotate_left
            · simp only [Act.put, List.setIfInBounds_toArray, List.set_cons_zero, List.set_cons_succ, i64_w, i32_w]
              rfl
            exact norm_ (by rfl) (hj (p, A2, c2) w5 ⟨hS5, blk_below hb6 hb5, hk5, hr5, by show gb ≠ p; omega, by show ga ≠ p; omega, by show qb ≠ p; omega, by show W.heap.size ≤ p; omega,
              fun h0 ad h => by have := hl1 h0 ad h; show ad.block ≠ p; omega, ha6⟩)
        case hcont =>
          clear hHeld
          rintro ⟨p, A2, c2⟩ w6 hF
          obtain ⟨hS6, hb6, hk6, hr6, m1, m2, m3, m4, m5, m6⟩ := hF
          replace hb6 : w6.heap[p]? = some (.cells #[.int .i64 0, .int .i64 0, .slice none 0 0] 37 (0, 0)) := hb6
          replace hk6 : Q2.length ≤ c2 := hk6
          replace hr6 : Kd.C (Kd.int .i64) w6 A2 Q2.length Q2 := hr6
          replace m1 : gb ≠ p := m1
          replace m2 : ga ≠ p := m2
          replace m3 : qb ≠ p := m3
          replace m4 : W.heap.size ≤ p := m4
          replace m5 : 0 < Q.length → ∀ ad, A1 = some ad → ad.block ≠ p := m5
          replace m6 : ∀ ad, A2 = some ad → ad.block ≠ p ∧ ad.block ≠ gb ∧ ad.block ≠ ga ∧ ad.block ≠ qb := m6
          have r0 : w6.cell? ⟨p, 0, none⟩ = some (.int .i64 0) := blk_cell hb6 0
          have r1 : w6.cell? ⟨p, 1, none⟩ = some (.int .i64 0) := blk_cell hb6 1
          have r2 : w6.cell? ⟨p, 2, none⟩ = some (.slice none 0 0) := blk_cell hb6 2
          have q0 : w6.frozen? ⟨p, 0, none⟩ = false := blk_frozen hb6 0
          have q1 : w6.frozen? ⟨p, 1, none⟩ = false := blk_frozen hb6 1
          have q2 : w6.frozen? ⟨p, 2, none⟩ = false := blk_frozen hb6 2
          have hS7 := (((hS6.far (p := ⟨p, 0, none⟩) m1 m2 m3 m5 m4 (.int .i64 (most : Int))).far (p := ⟨p, 1, none⟩) m1 m2 m3 m5 m4 (.int .i64 (lo2 : Int))).far (p := ⟨p, 2, none⟩) m1 m2 m3 m5 m4 (.slice A2 Q2.length c2))
          have hb7 := blk_set (blk_set (blk_set hb6 0 (.int .i64 (most : Int))) 1 (.int .i64 (lo2 : Int))) 2 (.slice A2 Q2.length c2)
          have hr7 := C_far (C_far (C_far hr6 (p := ⟨p, 0, none⟩) (fun _ ad e => (m6 ad e).1) (.int .i64 (most : Int))) (p := ⟨p, 1, none⟩) (fun _ ad e => (m6 ad e).1) (.int .i64 (lo2 : Int))) (p := ⟨p, 2, none⟩) (fun _ ad e => (m6 ad e).1) (.slice A2 Q2.length c2)
          refine norm_ (a' := ?_) ?_ ?_
          rotate_left
          · simp only [putAll, Act.put, List.setIfInBounds_toArray, List.set_cons_zero, List.set_cons_succ, i64_w, i32_w]
            rfl
          refine one_ (i := 11) (N := none) #[true, true, true, true, true, true, true, true, true, true, true, true, false] rfl rfl (by kernel_rfl) (by decide) (fun K hK => ?_)
          refine skip_ (w1 := (((w6.setCell ⟨p, 0, none⟩ (.int .i64 (most : Int))).setCell ⟨p, 1, none⟩ (.int .i64 (lo2 : Int))).setCell ⟨p, 2, none⟩ (.slice A2 Q2.length c2))) (by rfl) rfl ?_ ?_
          · first
            | (go_simp; done)
            | (go_simp; rfl)
          refine hK.out _ _ ⟨hS7.full, CX.out _ hS7.be⟩ (fun hHeld => ?_)
          clear hK K
          refine norm_ (a' := ?_) ?_ ?_
          rotate_left
          · rfl
          refine pure_ (i := 12) (N := some 16) (v := ?_) (a' := ?_) #[true, true, true, true, true, true, true, true, true, true, true, true, true] rfl rfl (by kernel_rfl) (fun _ _ _ h => h) (Or.inl ⟨by rfl, ?_⟩) ?_ ?_
          rotate_left
          · intro w'
            go_simp
            try with_reducible rfl
          rotate_left
          · simp only [Act.put, List.setIfInBounds_toArray, List.set_cons_zero, List.set_cons_succ, i64_w, i32_w]
            rfl
          refine done_ (by kernel_rfl) ?_
          clear hHeld r0 r1 r2 q0 q1 q2 hS6 hr6 hb6
          obtain ⟨w7, hw7⟩ : ∃ w7, w7 = (((w6.setCell ⟨p, 0, none⟩ (.int .i64 (most : Int))).setCell ⟨p, 1, none⟩ (.int .i64 (lo2 : Int))).setCell ⟨p, 2, none⟩ (.slice A2 Q2.length c2)) := ⟨_, rfl⟩
          rw [← hw7] at hS7 hb7 hr7 ⊢
          clear hw7
          have hb8 := hS7.b
          have r0 : w7.cell? ⟨p, 0, none⟩ = some (.int .i64 (most : Int)) := blk_cell hb7 0
          have r1 : w7.cell? ⟨p, 1, none⟩ = some (.int .i64 (lo2 : Int)) := blk_cell hb7 1
          have r2 : w7.cell? ⟨p, 2, none⟩ = some (.slice A2 Q2.length c2) := blk_cell hb7 2
          have d0 : w7.cell? ⟨qb, 0, none⟩ = some (.int .i64 (most : Int)) := blk_cell hb8 0
          have d1 : w7.cell? ⟨qb, 1, none⟩ = some (.int .i64 (lost : Int)) := blk_cell hb8 1
          have d2 : w7.cell? ⟨qb, 2, none⟩ = some (.slice A1 Q.length c1) := blk_cell hb8 2
          have f0 : w7.frozen? ⟨qb, 0, none⟩ = false := blk_frozen hb8 0
          have f1 : w7.frozen? ⟨qb, 1, none⟩ = false := blk_frozen hb8 1
          have f2 : w7.frozen? ⟨qb, 2, none⟩ = false := blk_frozen hb8 2
          have hgq : gb ≠ qb := by omega
          have hga2 : ga ≠ qb := by omega
          have hS2 := St.put (lost := lo2) (c := c2) hS7.q hb8 hgq hga2 hk6 hr7 (fun ad e => (m6 ad e).2) hS7.be hBq
          clear hS7 hr7 hb7 hb8
          go_wp2_with fail
          refine start_ (n := 21) (S := fun wx => Sx W wx gb ga most qb lo2 Q2 lo2 A2 c2 Q2) (ds := []) #[false, false, false, false, false, false, false, false, false, false, false, false, false, false, false, false, false, false, false, false, false] (by kernel_rfl) rfl rfl ((hS2.step (below_drew (Below.refl _ _))).full) (fun hHeld => ?_)
          refine pure_ (i := 0) (N := some 102) (v := ?_) (a' := ?_) #[true, false, false, false, false, false, false, false, false, false, false, false, false, false, false, false, false, false, false, false, false] rfl rfl (by kernel_rfl) (fun _ _ _ h => h) (Or.inl ⟨by rfl, ?_⟩) ?_ ?_
          rotate_left
          · intro w'
            go_simp
            try with_reducible rfl
          rotate_left
          · simp only [Act.put, List.setIfInBounds_toArray, List.set_cons_zero, List.set_cons_succ, i64_w, i32_w]
            rfl
          refine pure_ (i := 2) (N := some 104) (v := ?_) (a' := ?_) #[true, false, true, false, false, false, false, false, false, false, false, false, false, false, false, false, false, false, false, false, false] rfl rfl (by kernel_rfl) (fun _ _ _ h => h) (Or.inl ⟨by rfl, ?_⟩) ?_ ?_
          rotate_left
          · intro w'
            go_simp
            try with_reducible rfl
          rotate_left
          · simp only [Act.put, List.setIfInBounds_toArray, List.set_cons_zero, List.set_cons_succ, i64_w, i32_w]
            rfl
          refine take_ (i := 3) (N := some 105) (v := ?_) (a' := ?_) #[true, false, true, true, false, false, false, false, false, false, false, false, false, false, false, false, false, false, false, false, false] rfl rfl (by kernel_rfl) (fun _ _ _ h => h) (Or.inl ⟨by rfl, ?_⟩) hHeld ?_ ?_
          rotate_left
          · rintro w' ⟨_, _, s1, s2⟩
            go_simp
            with_reducible rfl
          rotate_left
          · simp only [Act.put, List.setIfInBounds_toArray, List.set_cons_zero, List.set_cons_succ, i64_w, i32_w]
            rfl
          refine pure_ (i := 4) (N := some 106) (v := ?_) (a' := ?_) #[true, false, true, true, true, false, false, false, false, false, false, false, false, false, false, false, false, false, false, false, false] rfl rfl (by kernel_rfl) (fun _ _ _ h => h) (Or.inl ⟨by rfl, ?_⟩) ?_ ?_
          rotate_left
          · intro w'
            go_simp
            try with_reducible rfl
          rotate_left
          · simp only [Act.put, List.setIfInBounds_toArray, List.set_cons_zero, List.set_cons_succ, i64_w, i32_w]
            rfl
          refine one_ (i := 1) (N := some 103) #[true, true, true, true, true, false, false, false, false, false, false, false, false, false, false, false, false, false, false, false, false] rfl rfl (by kernel_rfl) (by decide) (fun K hK => ?_)
          refine goes_ Try.func23 (by kernel_rfl) rfl #[.pointer (some ⟨gb, 0, none⟩)] (by rfl) rfl rfl (by (try simp only [List.map_toArray, List.map_cons, List.map_nil]); first | done | rfl) ?_
          refine (RingQInt.lenQ hHeld.s.q).mono ?_
          rintro e wA ⟨rfl, hbA⟩
          refine ⟨_, rfl, ?_⟩
          refine hK.out _ _ ((hHeld.s.step hbA).full) (fun hHeld => ?_)
          clear hK K
          refine norm_ (a' := ?_) ?_ ?_
          rotate_left
          · show Act.put _ (some 103) _ = _
            simp only [Act.put, List.setIfInBounds_toArray, List.set_cons_zero, List.set_cons_succ, i64_w, i32_w]
            rfl
          refine pure_ (i := 5) (N := some 107) (v := ?_) (a' := ?_) #[true, true, true, true, true, true, false, false, false, false, false, false, false, false, false, false, false, false, false, false, false] rfl rfl (by kernel_rfl) (fun _ _ _ h => h) (Or.inl ⟨by rfl, ?_⟩) ?_ ?_
          rotate_left
          · intro w'
            go_simp
            try with_reducible rfl
          rotate_left
          · simp only [Act.put, List.setIfInBounds_toArray, List.set_cons_zero, List.set_cons_succ, i64_w, i32_w]
            rfl
          refine pure_ (i := 6) (N := some 108) (v := ?_) (a' := ?_) #[true, true, true, true, true, true, true, false, false, false, false, false, false, false, false, false, false, false, false, false, false] rfl rfl (by kernel_rfl) (fun _ _ _ h => h) (Or.inl ⟨by rfl, ?_⟩) ?_ ?_
          rotate_left
          · intro w'
            go_simp
            try with_reducible rfl
          rotate_left
          · simp only [Act.put, List.setIfInBounds_toArray, List.set_cons_zero, List.set_cons_succ, i64_w, i32_w]
            rfl
          refine pure_ (i := 7) (N := some 109) (v := ?_) (a' := ?_) #[true, true, true, true, true, true, true, true, false, false, false, false, false, false, false, false, false, false, false, false, false] rfl rfl (by kernel_rfl) (fun _ _ _ h => h) (Or.inl ⟨by rfl, ?_⟩) ?_ ?_
          rotate_left
          · intro w'
            go_simp
            try with_reducible rfl
          rotate_left
          · simp only [Act.put, List.setIfInBounds_toArray, List.set_cons_zero, List.set_cons_succ, i64_w, i32_w]
            rfl
          refine pure_ (i := 9) (N := some 111) (v := ?_) (a' := ?_) #[true, true, true, true, true, true, true, true, false, true, false, false, false, false, false, false, false, false, false, false, false] rfl rfl (by kernel_rfl) (fun _ _ _ h => h) (Or.inl ⟨by rfl, ?_⟩) ?_ ?_
          rotate_left
          · intro w'
            go_simp
            try with_reducible rfl
          rotate_left
          · simp only [Act.put, List.setIfInBounds_toArray, List.set_cons_zero, List.set_cons_succ, i64_w, i32_w]
            rfl
          refine take_ (i := 10) (N := some 112) (v := ?_) (a' := ?_) #[true, true, true, true, true, true, true, true, false, true, true, false, false, false, false, false, false, false, false, false, false] rfl rfl (by kernel_rfl) (fun _ _ _ h => h) (Or.inl ⟨by rfl, ?_⟩) hHeld ?_ ?_
          rotate_left
          · rintro w' ⟨_, _, s1, s2⟩
            go_simp
            with_reducible rfl
          rotate_left
          · simp only [Act.put, List.setIfInBounds_toArray, List.set_cons_zero, List.set_cons_succ, i64_w, i32_w]
            rfl
          refine one_ (i := 8) (N := some 110) #[true, true, true, true, true, true, true, true, true, true, true, false, false, false, false, false, false, false, false, false, false] rfl rfl (by kernel_rfl) (by decide) (fun K hK => ?_)
          refine goes_ Try.func24 (by kernel_rfl) rfl #[.pointer (some ⟨gb, 0, none⟩)] (by rfl) rfl rfl (by (try simp only [List.map_toArray, List.map_cons, List.map_nil]); first | done | rfl) ?_
          refine (RingQInt.lostQ hHeld.s.q).mono ?_
          rintro e wB ⟨rfl, hbB⟩
          refine ⟨_, rfl, ?_⟩
          refine hK.out _ _ ((hHeld.s.step hbB).full) (fun hHeld => ?_)
          clear hK K
          refine norm_ (a' := ?_) ?_ ?_
          rotate_left
          · show Act.put _ (some 110) _ = _
            simp only [Act.put, List.setIfInBounds_toArray, List.set_cons_zero, List.set_cons_succ, i64_w, i32_w]
            rfl
          refine pure_ (i := 11) (N := some 113) (v := ?_) (a' := ?_) #[true, true, true, true, true, true, true, true, true, true, true, true, false, false, false, false, false, false, false, false, false] rfl rfl (by kernel_rfl) (fun _ _ _ h => h) (Or.inl ⟨by rfl, ?_⟩) ?_ ?_
          rotate_left
          · intro w'
            go_simp
            try with_reducible rfl
          rotate_left
          · simp only [Act.put, List.setIfInBounds_toArray, List.set_cons_zero, List.set_cons_succ, i64_w, i32_w]
            rfl
          refine pure_ (i := 12) (N := some 114) (v := ?_) (a' := ?_) #[true, true, true, true, true, true, true, true, true, true, true, true, true, false, false, false, false, false, false, false, false] rfl rfl (by kernel_rfl) (fun _ _ _ h => h) (Or.inl ⟨by rfl, ?_⟩) ?_ ?_
          rotate_left
          · intro w'
            go_simp
            try with_reducible rfl
          rotate_left
          · simp only [Act.put, List.setIfInBounds_toArray, List.set_cons_zero, List.set_cons_succ, i64_w, i32_w]
            rfl
          refine pure_ (i := 13) (N := some 115) (v := ?_) (a' := ?_) #[true, true, true, true, true, true, true, true, true, true, true, true, true, true, false, false, false, false, false, false, false] rfl rfl (by kernel_rfl) (fun _ _ _ h => h) (Or.inl ⟨by rfl, ?_⟩) ?_ ?_
          rotate_left
          · intro w'
            go_simp
            try with_reducible rfl
          rotate_left
          · simp only [Act.put, List.setIfInBounds_toArray, List.set_cons_zero, List.set_cons_succ, i64_w, i32_w]
            rfl
          refine pure_ (i := 14) (N := some 116) (v := ?_) (a' := ?_) #[true, true, true, true, true, true, true, true, true, true, true, true, true, true, true, false, false, false, false, false, false] rfl rfl (by kernel_rfl) (fun _ _ _ h => h) (Or.inl ⟨by rfl, ?_⟩) ?_ ?_
          rotate_left
          · intro w'
            go_simp
            try with_reducible rfl
          rotate_left
          · simp only [Act.put, List.setIfInBounds_toArray, List.set_cons_zero, List.set_cons_succ, i64_w, i32_w]
            rfl
          refine pure_ (i := 16) (N := some 118) (v := ?_) (a' := ?_) #[true, true, true, true, true, true, true, true, true, true, true, true, true, true, true, false, true, false, false, false, false] rfl rfl (by kernel_rfl) (fun _ _ _ h => h) (Or.inl ⟨by rfl, ?_⟩) ?_ ?_
          rotate_left
          · intro w'
            go_simp
            try with_reducible rfl
          rotate_left
          · simp only [Act.put, List.setIfInBounds_toArray, List.set_cons_zero, List.set_cons_succ, i64_w, i32_w]
            rfl
          refine take_ (i := 17) (N := some 119) (v := ?_) (a' := ?_) #[true, true, true, true, true, true, true, true, true, true, true, true, true, true, true, false, true, true, false, false, false] rfl rfl (by kernel_rfl) (fun _ _ _ h => h) (Or.inl ⟨by rfl, ?_⟩) hHeld ?_ ?_
          rotate_left
          · rintro w' ⟨_, _, s1, s2⟩
            go_simp
            with_reducible rfl
          rotate_left
          · simp only [Act.put, List.setIfInBounds_toArray, List.set_cons_zero, List.set_cons_succ, i64_w, i32_w]
            rfl
          refine one_ (i := 15) (N := some 117) #[true, true, true, true, true, true, true, true, true, true, true, true, true, true, true, true, true, true, false, false, false] rfl rfl (by kernel_rfl) (by decide) (fun K hK => ?_)
          refine goes_ Try.func20 (by kernel_rfl) rfl #[.pointer (some ⟨gb, 0, none⟩)] (by rfl) rfl rfl (by (try simp only [List.map_toArray, List.map_cons, List.map_nil]); first | done | rfl) ?_
          refine (RingQInt.listQ hHeld.s.q).mono ?_
          rintro e wC ⟨vC, rfl, hrC, hbC⟩
          refine ⟨_, rfl, ?_⟩
          obtain ⟨AC, cC, eC, hkC, hCC⟩ := row_C hrC hlen2
          subst eC
          refine hK.out _ _ ((hHeld.s.step hbC).full) (fun hHeld => ?_)
          clear hK K
          refine norm_ (a' := ?_) ?_ ?_
          rotate_left
          · show Act.put _ (some 117) _ = _
            simp only [Act.put, List.setIfInBounds_toArray, List.set_cons_zero, List.set_cons_succ, i64_w, i32_w]
            rfl
          refine one_ (i := 18) (N := some 120) #[true, true, true, true, true, true, true, true, true, true, true, true, true, true, true, true, true, true, true, false, false] rfl rfl (by kernel_rfl) (by decide) (fun K hK => ?_)
          refine goes_ Try.func25 (by kernel_rfl) rfl #[.slice AC Q2.length cC, .slice A2 Q2.length c2] (by rfl) rfl rfl (by (try simp only [List.map_toArray, List.map_cons, List.map_nil]); first | done | rfl) ?_
          refine (lancetlaw14_Numbers.calls 65 AC cC Q2 A2 c2 Q2 1 _ hCC hkC hHeld.s.r hHeld.s.k (num_same Q2 hlen2)).mono ?_
          rintro e wD ⟨rfl, hbD⟩
          refine ⟨_, rfl, ?_⟩
          refine hK.out _ _ ((hHeld.s.step hbD.below).full) (fun hHeld => ?_)
          clear hK K
          refine norm_ (a' := ?_) ?_ ?_
          rotate_left
          · show Act.put _ (some 120) _ = _
            simp only [Act.put, List.setIfInBounds_toArray, List.set_cons_zero, List.set_cons_succ, i64_w, i32_w]
            rfl
          refine pure_ (i := 19) (N := some 121) (v := ?_) (a' := ?_) #[true, true, true, true, true, true, true, true, true, true, true, true, true, true, true, true, true, true, true, true, false] rfl rfl (by kernel_rfl) (fun _ _ _ h => h) (Or.inl ⟨by rfl, ?_⟩) ?_ ?_
          rotate_left
          · intro w'
            go_simp
            try with_reducible rfl
          rotate_left
          · simp only [Act.put, List.setIfInBounds_toArray, List.set_cons_zero, List.set_cons_succ, i64_w, i32_w]
            rfl
          refine pure_ (i := 20) (N := some 122) (v := ?_) (a' := ?_) #[true, true, true, true, true, true, true, true, true, true, true, true, true, true, true, true, true, true, true, true, true] rfl rfl (by kernel_rfl) (fun _ _ _ h => h) (Or.inl ⟨by rfl, ?_⟩) ?_ ?_
          rotate_left
          · intro w'
            go_simp
            try with_reducible rfl
          rotate_left
          · simp only [Act.put, List.setIfInBounds_toArray, List.set_cons_zero, List.set_cons_succ, i64_w, i32_w]
            rfl
          refine done_ (by kernel_rfl) ?_
          have hS9 := hHeld.s
          clear hHeld hS2
          go_wp2_with fail
          refine ⟨⟨i + 1, lo2, A2, c2, Q2, by omega, by simp, hS9, hlo2⟩, ?_⟩
          simp [intOf]
          omega
    · obtain rfl : i = n := by omega
      go_wp2_with fail
      go_ret
      exact ⟨rfl, hS.be⟩

/-- The law, whatever comes in. -/
theorem walk (most : Int) (A : Option Addr) (n c : Nat) (l : List (Bool × Int)) (hl : l.length = n) (hw : ∀ q ∈ l, (Lit.int .i64 q.2).wf = true) (W : World) (hA : Acts W A l) :
    Calls Try.prog 4 #[.int .i64 most, .slice A n c] W fun e w' => e = .returned (.bool true) ∧ Below W.heap.size W w' := by
  by_cases h3 : 300 < n
  · exact long most A n c h3 W
  · by_cases hm : most < 1 ∨ 64 < most
    · exact bad most A n c (by omega) hm W
    · obtain ⟨m, rfl⟩ := Int.eq_ofNat_of_zero_le (show 0 ≤ most by omega)
      exact good m (by omega) (by omega) A n c (by omega) l hl hw W hA
end Go.Proofs.Ytcmofedfbjpjlaa.RingPlaysWalk
