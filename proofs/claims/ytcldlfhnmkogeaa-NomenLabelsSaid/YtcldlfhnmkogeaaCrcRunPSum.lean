import Derived.Test.YtcldlfhnmkogeaaPSumx3
import Derived.Test.YtcldlfhnmkogeaaCrcPlain
import Derived.Test.YtcldlfhnmkogeaaNats
import Derived.Laws.BitsAllLaws
/- What the printed functions of the sums by dividing come to: the plain sums of CrcPlain. -/
set_option linter.unusedVariables false
set_option linter.unusedSimpArgs false
namespace Go.Proofs.Ytcldlfhnmkogeaa.RunPSum
open Go.RowKit Go.Proofs.Ytcldlfhnmkogeaa.PSum Go.Proofs.YtcldlfhnmkogeaaW.PrintWords Go.Proofs.YtcldlfhnmkogeaaW.PrintLast Go.Proofs.Ytcldlfhnmkogeaa.CrcPlain Go.Proofs.Ytcldlfhnmkogeaa.Nats

theorem w64 {i : Int} (h0 : 0 ≤ i) (h : i < 9223372036854775807) : wrap64 (i + 1) = i + 1 := by unfold wrap64; omega
theorem u32_and_one (v : Nat) (hv : v < 4294967296) : Go.bits .and .u32 (v : Int) 1 = ((v % 2 : Nat) : Int) := by
  have := Go.u32_and_nat v 1 hv (by omega)
  rw [show ((1 : Nat) : Int) = 1 from rfl] at this
  rw [this, Nat.and_one_is_mod]
theorem u32_or_low (a b : Nat) (ha : 2 * a < 4294967296) (hb : b < 2) : Go.bits .or .u32 ((2 * a : Nat) : Int) (b : Int) = ((2 * a + b : Nat) : Int) := by
  rw [Go.u32_or_nat (2 * a) b ha (by omega)]
  congr 1
  have : b = 0 ∨ b = 1 := by omega
  rcases this with rfl | rfl
  · simp
  · apply Nat.eq_of_testBit_eq
    intro i
    cases i with
    | zero => simp [Nat.testBit_zero]
    | succ i =>
      rw [Nat.testBit_succ, Nat.testBit_succ, Nat.or_div_two]
      have e1 : 2 * a / 2 = a := by omega
      have e2 : (2 * a + 1) / 2 = a := by omega
      rw [e1, e2]; simp

def bitStep (v : Nat) (b : Bool) : Nat := 2 * v + b.toNat
theorem turn_foldl (n v : Nat) : turn n v = (lb n v).reverse.foldl bitStep 0 := rfl
theorem low_toNat (v : Nat) : (v.testBit 0).toNat = v % 2 := by
  rw [Nat.testBit_zero]
  rcases Nat.mod_two_eq_zero_or_one v with h | h <;> simp [h]

theorem turn_l0 (n : Nat) (hn : n ≤ 32) : ∀ (d v out i : Nat), i + d = n → v < 4294967296 → out < 2 ^ i → Ev (fun k => crc_Turn.l0 k (v : Int) (out : Int) (n : Int) (i : Int)) (((lb d v).reverse.foldl bitStep out : Nat) : Int)
  | 0, v, out, i, hi, hv, ho => by
    refine Ev.step (f := fun _ => some (out : Int)) (fun k => ?_) (Ev.now _)
    simp only [crc_Turn.l0]; rw [if_neg (by omega)]
  | d + 1, v, out, i, hi, hv, ho => by
    have hlt : out < 2 ^ 31 := Nat.lt_of_lt_of_le ho (Nat.pow_le_pow_right (by omega) (by omega))
    have hb : 2 * out + v % 2 < 2 ^ (i + 1) := by rw [Nat.pow_succ]; omega
    have := turn_l0 n hn d (v / 2) (2 * out + v % 2) (i + 1) (by omega) (by omega) hb
    rw [lb_succ, List.reverse_append, List.reverse_singleton, List.singleton_append, List.foldl_cons, bitStep, low_toNat]
    refine Ev.step (fun k => ?_) this
    simp only [crc_Turn.l0]
    rw [if_pos (by omega), w64 (by omega) (by omega), u32_and_one v hv]
    have e1 : ((out : Int) * 2) % 4294967296 = ((2 * out : Nat) : Int) := by omega
    rw [e1, u32_or_low out (v % 2) (by omega) (by omega)]
    have e2 : (v : Int) / 2 = ((v / 2 : Nat) : Int) := by omega
    rw [e2]
    rfl
theorem turn_ev (v n : Nat) (hv : v < 4294967296) (h1 : 1 ≤ n) (h2 : n ≤ 32) : Ev (fun k => crc_Turn.f k (v : Int) (n : Int)) ((turn n v : Nat) : Int) := by
  have h := turn_l0 n h2 n v 0 0 (by omega) hv (by omega)
  have h' : Ev (fun k => crc_Turn.j0 k (v : Int) (n : Int) false) ((turn n v : Nat) : Int) := by
    refine Ev.step (fun k => ?_) h
    simp only [crc_Turn.j0]
    simp
  refine Ev.congr (fun k => ?_) h'
  simp only [crc_Turn.f]
  rw [if_neg (by omega), show decide ((n : Int) > 32) = false from by simp; omega]
theorem turn_ev_zero (v n : Int) (h : n < 1 ∨ 32 < n) : Ev (fun k => crc_Turn.f k v n) 0 := by
  have h' : Ev (fun k => crc_Turn.j0 k v n true) 0 := by
    refine Ev.step (f := fun _ => some 0) (fun k => ?_) (Ev.now _)
    simp only [crc_Turn.j0]; simp
  refine Ev.congr (fun k => ?_) h'
  simp only [crc_Turn.f]
  rcases h with h | h
  · rw [if_pos h]
  · rw [if_neg (by omega), show decide (n > 32) = true from by simp; omega]

/-! ### Dividing -/
theorem high_iff {w r : Nat} (hw : 1 ≤ w) (hr : r < 2 ^ w) : r / 2 ^ (w - 1) = 1 ↔ r.testBit (w - 1) = true := by
  rw [Nat.testBit_eq_decide_div_mod_eq]
  have e : 2 ^ w = 2 ^ (w - 1) * 2 := by rw [← Nat.pow_succ]; congr 1; omega
  have : r / 2 ^ (w - 1) < 2 := by rw [Nat.div_lt_iff_lt_mul (Nat.two_pow_pos _)]; omega
  generalize r / 2 ^ (w - 1) = q at *
  simp; omega
theorem rd_nat (l : List Nat) (i : Nat) (h : i < l.length) : rd (ints l) (i : Int) = ((l[i] : Nat) : Int) := by
  simp [rd, ints, List.getD_eq_getElem?_getD, h]
theorem u8w (x : Nat) (h : x < 256) : ((x : Int) % 256) = (x : Int) := by omega
theorem u16w (x : Int) : IntKind.u16.wrap x = x % 65536 := by
  simp [IntKind.wrap, IntKind.signed, IntKind.bits]

theorem shr8 (r : Nat) : shr .u8 (r : Int) (((8 - 1 : Nat) : Nat) : Int) = ((r / 2 ^ (8 - 1) : Nat) : Int) := by
  simp [shr, IntKind.bits]
theorem div8_l1 (p : Nat) (hp : p < 2 ^ 8) (t : Bool) (l : List Int) (len i : Int) (q : Int) : ∀ (d r j : Nat), j + d = 8 → r < 2 ^ 8 →
    Ev (fun k => crc_divide_uint8.l0 k 8 (p : Int) t ((dbls 8 p d r : Nat) : Int) l len (wrap64 (i + 1))) q →
    Ev (fun k => crc_divide_uint8.l1 k 8 (p : Int) t (r : Int) l len i (j : Int)) q
  | 0, r, j, hj, hr, h => by
    refine Ev.step (fun k => ?_) h
    simp only [crc_divide_uint8.l1]; rw [if_neg (by omega)]; rfl
  | d + 1, r, j, hj, hr, h => by
    have := div8_l1 p hp t l len i q d (dbl 8 p r) (j + 1) (by omega) (dbl_lt hp) h
    refine Ev.step (fun k => ?_) this
    have e0 : wrap64 ((8 : Int) - 1) = (((8 - 1 : Nat) : Nat) : Int) := by unfold wrap64; omega
    simp only [crc_divide_uint8.l1]
    rw [if_pos (by omega), e0, if_pos (by omega), shr8, w64 (by omega) (by omega)]
    have hh := high_iff (w := 8) (by omega) hr
    by_cases hb : r.testBit (8 - 1) = true
    · have e1 : ((r / 2 ^ (8 - 1) : Nat) : Int) = 1 := by rw [hh.2 hb]; rfl
      have hm : 2 * r % 2 ^ 8 < 2 ^ 8 := Nat.mod_lt _ (by decide)
      rw [if_pos e1, dbl, if_pos hb]
      have e2 : (r : Int) * 2 % 256 = ((2 * r % 2 ^ 8 : Nat) : Int) := by omega
      have e3 := Go.u8_xor_nat (2 * r % 2 ^ 8) p hm hp
      first | rw [e2, e3] | rw [u16w, e2, e3]
      rfl
    · have e1 : ¬ ((r / 2 ^ (8 - 1) : Nat) : Int) = 1 := by rw [← hh] at hb; omega
      rw [if_neg e1, dbl, if_neg hb]
      have e2 : (r : Int) * 2 % 256 = ((2 * r % 2 ^ 8 : Nat) : Int) := by omega
      first | rw [e2] | rw [u16w, e2]
      rfl
theorem div8_j1 (p : Nat) (hp : p < 2 ^ 8) (t : Bool) (l : List Int) (len i : Int) (q : Int) (r c : Nat) (hr : r < 2 ^ 8) (hc : c < 256)
    (h : Ev (fun k => crc_divide_uint8.l0 k 8 (p : Int) t ((dbls 8 p 8 (r ^^^ (c * 2 ^ (8 - 8))) : Nat) : Int) l len (wrap64 (i + 1))) q) :
    Ev (fun k => crc_divide_uint8.j1 k 8 (p : Int) t (r : Int) (c : Int) l len i) q := by
  have hs : c * 2 ^ (8 - 8) < 2 ^ 8 := shift_lt (by omega) hc
  refine Ev.step (fun k => ?_) (div8_l1 p hp t l len i q 8 (r ^^^ (c * 2 ^ (8 - 8))) 0 rfl (Nat.xor_lt_two_pow hr hs) h)
  have e0 : wrap64 ((8 : Int) - 8) = (((8 - 8 : Nat) : Nat) : Int) := by unfold wrap64; omega
  simp only [crc_divide_uint8.j1]
  rw [e0, if_pos (by omega)]
  have e2 : shl .u8 (c : Int) (((8 - 8 : Nat) : Nat) : Int) = ((c * 2 ^ (8 - 8) : Nat) : Int) := by
    simp [shl, IntKind.bits, IntKind.wrap, IntKind.signed]; omega
  have e3 : (c : Int) % 256 = c := by omega
  have e4 := Go.u8_xor_nat r (c * 2 ^ (8 - 8)) hr hs
  have e5 : (c : Int) % 65536 = c := by omega
  first | rw [e2, e4] | rw [e3, e2, e4] | rw [u16w, e5, e2, e4]
  rfl
theorem div8_l0 (p : Nat) (hp : p < 2 ^ 8) (t : Bool) (l : List Nat) (hl : ∀ x ∈ l, x < 256) (hlen : l.length < 9223372036854775807) : ∀ (d r i : Nat), i + d = l.length → r < 2 ^ 8 →
    Ev (fun k => crc_divide_uint8.l0 k 8 (p : Int) t (r : Int) (ints l) (l.length : Int) (i : Int)) ((div 8 p t r (l.drop i) : Nat) : Int)
  | 0, r, i, hi, hr => by
    have e : l.drop i = [] := List.drop_of_length_le (by omega)
    rw [e]
    refine Ev.step (f := fun _ => some (r : Int)) (fun k => ?_) (Ev.now _)
    simp only [crc_divide_uint8.l0]; rw [if_neg (by omega)]
  | d + 1, r, i, hi, hr => by
    have hlt : i < l.length := by omega
    have hc : l[i] < 256 := hl _ (List.getElem_mem hlt)
    have ih := div8_l0 p hp t l hl hlen d (byte 8 p t r l[i]) (i + 1) (by omega) (byte_lt (by omega) hp t hr hc)
    rw [List.drop_eq_getElem_cons hlt]
    have e1 : div 8 p t r (l[i] :: l.drop (i + 1)) = div 8 p t (byte 8 p t r l[i]) (l.drop (i + 1)) := rfl
    rw [e1]
    have ew : wrap64 ((i : Int) + 1) = (((i + 1 : Nat) : Nat) : Int) := by rw [w64 (by omega) (by omega)]; rfl
    have e2 : ((l[i] : Nat) : Int) % 4294967296 = (l[i] : Int) := by omega
    cases t with
    | true =>
      have hj := div8_j1 p hp true (ints l) (l.length : Int) (i : Int) _ r (turn 8 l[i]) hr (turn_lt 8 _) (by rw [ew]; exact ih)
      refine Ev.step (fun k => ?_) (Ev.bind (f := fun k (c : Int) => crc_divide_uint8.j1 k 8 (p : Int) true (r : Int) c (ints l) (l.length : Int) (i : Int)) (turn_ev l[i] 8 (by omega) (by omega) (by omega)) hj)
      simp only [crc_divide_uint8.l0]
      rw [if_pos (by omega), if_pos (by omega), if_pos (by rw [ints_length]; omega), if_pos trivial, rd_nat l i hlt, e2]
      rfl
    | false =>
      have hj := div8_j1 p hp false (ints l) (l.length : Int) (i : Int) _ r l[i] hr hc (by rw [ew]; exact ih)
      refine Ev.step (fun k => ?_) hj
      simp only [crc_divide_uint8.l0]
      rw [if_pos (by omega), if_pos (by omega), if_pos (by rw [ints_length]; omega), if_neg (by simp), rd_nat l i hlt, e2]
theorem div8_ev (p r : Nat) (hp : p < 2 ^ 8) (hr : r < 2 ^ 8) (t : Bool) (l : List Nat) (hl : ∀ x ∈ l, x < 256) (hlen : l.length < 9223372036854775807) :
    Ev (fun k => crc_divide_uint8.f k 8 (p : Int) (r : Int) t (ints l)) ((div 8 p t r l : Nat) : Int) := by
  have h := div8_l0 p hp t l hl hlen l.length r 0 (by omega) hr
  refine Ev.congr (fun k => ?_) h
  simp only [crc_divide_uint8.f, ints_length]
  rfl
theorem shr16 (r : Nat) : shr .u16 (r : Int) (((16 - 1 : Nat) : Nat) : Int) = ((r / 2 ^ (16 - 1) : Nat) : Int) := by
  simp [shr, IntKind.bits]
theorem div16_l1 (p : Nat) (hp : p < 2 ^ 16) (t : Bool) (l : List Int) (len i : Int) (q : Int) : ∀ (d r j : Nat), j + d = 8 → r < 2 ^ 16 →
    Ev (fun k => crc_divide_uint16.l0 k 16 (p : Int) t ((dbls 16 p d r : Nat) : Int) l len (wrap64 (i + 1))) q →
    Ev (fun k => crc_divide_uint16.l1 k 16 (p : Int) t (r : Int) l len i (j : Int)) q
  | 0, r, j, hj, hr, h => by
    refine Ev.step (fun k => ?_) h
    simp only [crc_divide_uint16.l1]; rw [if_neg (by omega)]; rfl
  | d + 1, r, j, hj, hr, h => by
    have := div16_l1 p hp t l len i q d (dbl 16 p r) (j + 1) (by omega) (dbl_lt hp) h
    refine Ev.step (fun k => ?_) this
    have e0 : wrap64 ((16 : Int) - 1) = (((16 - 1 : Nat) : Nat) : Int) := by unfold wrap64; omega
    simp only [crc_divide_uint16.l1]
    rw [if_pos (by omega), e0, if_pos (by omega), shr16, w64 (by omega) (by omega)]
    have hh := high_iff (w := 16) (by omega) hr
    by_cases hb : r.testBit (16 - 1) = true
    · have e1 : ((r / 2 ^ (16 - 1) : Nat) : Int) = 1 := by rw [hh.2 hb]; rfl
      have hm : 2 * r % 2 ^ 16 < 2 ^ 16 := Nat.mod_lt _ (by decide)
      rw [if_pos e1, dbl, if_pos hb]
      have e2 : (r : Int) * 2 % 65536 = ((2 * r % 2 ^ 16 : Nat) : Int) := by omega
      have e3 := Go.u16_xor_nat (2 * r % 2 ^ 16) p hm hp
      first | rw [e2, e3] | rw [u16w, e2, e3]
      rfl
    · have e1 : ¬ ((r / 2 ^ (16 - 1) : Nat) : Int) = 1 := by rw [← hh] at hb; omega
      rw [if_neg e1, dbl, if_neg hb]
      have e2 : (r : Int) * 2 % 65536 = ((2 * r % 2 ^ 16 : Nat) : Int) := by omega
      first | rw [e2] | rw [u16w, e2]
      rfl
theorem div16_j1 (p : Nat) (hp : p < 2 ^ 16) (t : Bool) (l : List Int) (len i : Int) (q : Int) (r c : Nat) (hr : r < 2 ^ 16) (hc : c < 256)
    (h : Ev (fun k => crc_divide_uint16.l0 k 16 (p : Int) t ((dbls 16 p 8 (r ^^^ (c * 2 ^ (16 - 8))) : Nat) : Int) l len (wrap64 (i + 1))) q) :
    Ev (fun k => crc_divide_uint16.j1 k 16 (p : Int) t (r : Int) (c : Int) l len i) q := by
  have hs : c * 2 ^ (16 - 8) < 2 ^ 16 := shift_lt (by omega) hc
  refine Ev.step (fun k => ?_) (div16_l1 p hp t l len i q 8 (r ^^^ (c * 2 ^ (16 - 8))) 0 rfl (Nat.xor_lt_two_pow hr hs) h)
  have e0 : wrap64 ((16 : Int) - 8) = (((16 - 8 : Nat) : Nat) : Int) := by unfold wrap64; omega
  simp only [crc_divide_uint16.j1]
  rw [e0, if_pos (by omega)]
  have e2 : shl .u16 (c : Int) (((16 - 8 : Nat) : Nat) : Int) = ((c * 2 ^ (16 - 8) : Nat) : Int) := by
    simp [shl, IntKind.bits, IntKind.wrap, IntKind.signed]; omega
  have e3 : (c : Int) % 256 = c := by omega
  have e4 := Go.u16_xor_nat r (c * 2 ^ (16 - 8)) hr hs
  have e5 : (c : Int) % 65536 = c := by omega
  first | rw [e2, e4] | rw [e3, e2, e4] | rw [u16w, e5, e2, e4]
  rfl
theorem div16_l0 (p : Nat) (hp : p < 2 ^ 16) (t : Bool) (l : List Nat) (hl : ∀ x ∈ l, x < 256) (hlen : l.length < 9223372036854775807) : ∀ (d r i : Nat), i + d = l.length → r < 2 ^ 16 →
    Ev (fun k => crc_divide_uint16.l0 k 16 (p : Int) t (r : Int) (ints l) (l.length : Int) (i : Int)) ((div 16 p t r (l.drop i) : Nat) : Int)
  | 0, r, i, hi, hr => by
    have e : l.drop i = [] := List.drop_of_length_le (by omega)
    rw [e]
    refine Ev.step (f := fun _ => some (r : Int)) (fun k => ?_) (Ev.now _)
    simp only [crc_divide_uint16.l0]; rw [if_neg (by omega)]
  | d + 1, r, i, hi, hr => by
    have hlt : i < l.length := by omega
    have hc : l[i] < 256 := hl _ (List.getElem_mem hlt)
    have ih := div16_l0 p hp t l hl hlen d (byte 16 p t r l[i]) (i + 1) (by omega) (byte_lt (by omega) hp t hr hc)
    rw [List.drop_eq_getElem_cons hlt]
    have e1 : div 16 p t r (l[i] :: l.drop (i + 1)) = div 16 p t (byte 16 p t r l[i]) (l.drop (i + 1)) := rfl
    rw [e1]
    have ew : wrap64 ((i : Int) + 1) = (((i + 1 : Nat) : Nat) : Int) := by rw [w64 (by omega) (by omega)]; rfl
    have e2 : ((l[i] : Nat) : Int) % 4294967296 = (l[i] : Int) := by omega
    cases t with
    | true =>
      have hj := div16_j1 p hp true (ints l) (l.length : Int) (i : Int) _ r (turn 8 l[i]) hr (turn_lt 8 _) (by rw [ew]; exact ih)
      refine Ev.step (fun k => ?_) (Ev.bind (f := fun k (c : Int) => crc_divide_uint16.j1 k 16 (p : Int) true (r : Int) c (ints l) (l.length : Int) (i : Int)) (turn_ev l[i] 8 (by omega) (by omega) (by omega)) hj)
      simp only [crc_divide_uint16.l0]
      rw [if_pos (by omega), if_pos (by omega), if_pos (by rw [ints_length]; omega), if_pos trivial, rd_nat l i hlt, e2]
      rfl
    | false =>
      have hj := div16_j1 p hp false (ints l) (l.length : Int) (i : Int) _ r l[i] hr hc (by rw [ew]; exact ih)
      refine Ev.step (fun k => ?_) hj
      simp only [crc_divide_uint16.l0]
      rw [if_pos (by omega), if_pos (by omega), if_pos (by rw [ints_length]; omega), if_neg (by simp), rd_nat l i hlt, e2]
theorem div16_ev (p r : Nat) (hp : p < 2 ^ 16) (hr : r < 2 ^ 16) (t : Bool) (l : List Nat) (hl : ∀ x ∈ l, x < 256) (hlen : l.length < 9223372036854775807) :
    Ev (fun k => crc_divide_uint16.f k 16 (p : Int) (r : Int) t (ints l)) ((div 16 p t r l : Nat) : Int) := by
  have h := div16_l0 p hp t l hl hlen l.length r 0 (by omega) hr
  refine Ev.congr (fun k => ?_) h
  simp only [crc_divide_uint16.f, ints_length]
  rfl
theorem shr32 (r : Nat) : shr .u32 (r : Int) (((32 - 1 : Nat) : Nat) : Int) = ((r / 2 ^ (32 - 1) : Nat) : Int) := by
  simp [shr, IntKind.bits]
theorem div32_l1 (p : Nat) (hp : p < 2 ^ 32) (t : Bool) (l : List Int) (len i : Int) (q : Int) : ∀ (d r j : Nat), j + d = 8 → r < 2 ^ 32 →
    Ev (fun k => crc_divide_uint32.l0 k 32 (p : Int) t ((dbls 32 p d r : Nat) : Int) l len (wrap64 (i + 1))) q →
    Ev (fun k => crc_divide_uint32.l1 k 32 (p : Int) t (r : Int) l len i (j : Int)) q
  | 0, r, j, hj, hr, h => by
    refine Ev.step (fun k => ?_) h
    simp only [crc_divide_uint32.l1]; rw [if_neg (by omega)]; rfl
  | d + 1, r, j, hj, hr, h => by
    have := div32_l1 p hp t l len i q d (dbl 32 p r) (j + 1) (by omega) (dbl_lt hp) h
    refine Ev.step (fun k => ?_) this
    have e0 : wrap64 ((32 : Int) - 1) = (((32 - 1 : Nat) : Nat) : Int) := by unfold wrap64; omega
    simp only [crc_divide_uint32.l1]
    rw [if_pos (by omega), e0, if_pos (by omega), shr32, w64 (by omega) (by omega)]
    have hh := high_iff (w := 32) (by omega) hr
    by_cases hb : r.testBit (32 - 1) = true
    · have e1 : ((r / 2 ^ (32 - 1) : Nat) : Int) = 1 := by rw [hh.2 hb]; rfl
      have hm : 2 * r % 2 ^ 32 < 2 ^ 32 := Nat.mod_lt _ (by decide)
      rw [if_pos e1, dbl, if_pos hb]
      have e2 : (r : Int) * 2 % 4294967296 = ((2 * r % 2 ^ 32 : Nat) : Int) := by omega
      have e3 := Go.u32_xor_nat (2 * r % 2 ^ 32) p hm hp
      first | rw [e2, e3] | rw [u16w, e2, e3]
      rfl
    · have e1 : ¬ ((r / 2 ^ (32 - 1) : Nat) : Int) = 1 := by rw [← hh] at hb; omega
      rw [if_neg e1, dbl, if_neg hb]
      have e2 : (r : Int) * 2 % 4294967296 = ((2 * r % 2 ^ 32 : Nat) : Int) := by omega
      first | rw [e2] | rw [u16w, e2]
      rfl
theorem div32_j1 (p : Nat) (hp : p < 2 ^ 32) (t : Bool) (l : List Int) (len i : Int) (q : Int) (r c : Nat) (hr : r < 2 ^ 32) (hc : c < 256)
    (h : Ev (fun k => crc_divide_uint32.l0 k 32 (p : Int) t ((dbls 32 p 8 (r ^^^ (c * 2 ^ (32 - 8))) : Nat) : Int) l len (wrap64 (i + 1))) q) :
    Ev (fun k => crc_divide_uint32.j1 k 32 (p : Int) t (r : Int) (c : Int) l len i) q := by
  have hs : c * 2 ^ (32 - 8) < 2 ^ 32 := shift_lt (by omega) hc
  refine Ev.step (fun k => ?_) (div32_l1 p hp t l len i q 8 (r ^^^ (c * 2 ^ (32 - 8))) 0 rfl (Nat.xor_lt_two_pow hr hs) h)
  have e0 : wrap64 ((32 : Int) - 8) = (((32 - 8 : Nat) : Nat) : Int) := by unfold wrap64; omega
  simp only [crc_divide_uint32.j1]
  rw [e0, if_pos (by omega)]
  have e2 : shl .u32 (c : Int) (((32 - 8 : Nat) : Nat) : Int) = ((c * 2 ^ (32 - 8) : Nat) : Int) := by
    simp [shl, IntKind.bits, IntKind.wrap, IntKind.signed]; omega
  have e3 : (c : Int) % 256 = c := by omega
  have e4 := Go.u32_xor_nat r (c * 2 ^ (32 - 8)) hr hs
  have e5 : (c : Int) % 65536 = c := by omega
  first | rw [e2, e4] | rw [e3, e2, e4] | rw [u16w, e5, e2, e4]
  rfl
theorem div32_l0 (p : Nat) (hp : p < 2 ^ 32) (t : Bool) (l : List Nat) (hl : ∀ x ∈ l, x < 256) (hlen : l.length < 9223372036854775807) : ∀ (d r i : Nat), i + d = l.length → r < 2 ^ 32 →
    Ev (fun k => crc_divide_uint32.l0 k 32 (p : Int) t (r : Int) (ints l) (l.length : Int) (i : Int)) ((div 32 p t r (l.drop i) : Nat) : Int)
  | 0, r, i, hi, hr => by
    have e : l.drop i = [] := List.drop_of_length_le (by omega)
    rw [e]
    refine Ev.step (f := fun _ => some (r : Int)) (fun k => ?_) (Ev.now _)
    simp only [crc_divide_uint32.l0]; rw [if_neg (by omega)]
  | d + 1, r, i, hi, hr => by
    have hlt : i < l.length := by omega
    have hc : l[i] < 256 := hl _ (List.getElem_mem hlt)
    have ih := div32_l0 p hp t l hl hlen d (byte 32 p t r l[i]) (i + 1) (by omega) (byte_lt (by omega) hp t hr hc)
    rw [List.drop_eq_getElem_cons hlt]
    have e1 : div 32 p t r (l[i] :: l.drop (i + 1)) = div 32 p t (byte 32 p t r l[i]) (l.drop (i + 1)) := rfl
    rw [e1]
    have ew : wrap64 ((i : Int) + 1) = (((i + 1 : Nat) : Nat) : Int) := by rw [w64 (by omega) (by omega)]; rfl
    have e2 : ((l[i] : Nat) : Int) % 4294967296 = (l[i] : Int) := by omega
    cases t with
    | true =>
      have hj := div32_j1 p hp true (ints l) (l.length : Int) (i : Int) _ r (turn 8 l[i]) hr (turn_lt 8 _) (by rw [ew]; exact ih)
      refine Ev.step (fun k => ?_) (Ev.bind (f := fun k (c : Int) => crc_divide_uint32.j1 k 32 (p : Int) true (r : Int) c (ints l) (l.length : Int) (i : Int)) (turn_ev l[i] 8 (by omega) (by omega) (by omega)) hj)
      simp only [crc_divide_uint32.l0]
      rw [if_pos (by omega), if_pos (by omega), if_pos (by rw [ints_length]; omega), if_pos trivial, rd_nat l i hlt, e2]
      rfl
    | false =>
      have hj := div32_j1 p hp false (ints l) (l.length : Int) (i : Int) _ r l[i] hr hc (by rw [ew]; exact ih)
      refine Ev.step (fun k => ?_) hj
      simp only [crc_divide_uint32.l0]
      rw [if_pos (by omega), if_pos (by omega), if_pos (by rw [ints_length]; omega), if_neg (by simp), rd_nat l i hlt, e2]
theorem div32_ev (p r : Nat) (hp : p < 2 ^ 32) (hr : r < 2 ^ 32) (t : Bool) (l : List Nat) (hl : ∀ x ∈ l, x < 256) (hlen : l.length < 9223372036854775807) :
    Ev (fun k => crc_divide_uint32.f k 32 (p : Int) (r : Int) t (ints l)) ((div 32 p t r l : Nat) : Int) := by
  have h := div32_l0 p hp t l hl hlen l.length r 0 (by omega) hr
  refine Ev.congr (fun k => ?_) h
  simp only [crc_divide_uint32.f, ints_length]
  rfl

/-! ### The sum -/
theorem shr_u32 (v w : Nat) (hw : w ≤ 32) : shr .u32 (v : Int) (w : Int) = ((v / 2 ^ w : Nat) : Int) := by
  have hm : min ((w : Int)).toNat IntKind.u32.bits = w := by rw [Int.toNat_natCast]; simp only [IntKind.bits]; omega
  unfold shr
  rw [hm]
  simp
theorem below_yes (v w : Nat) (hw : w ≤ 32) (hv : v < 2 ^ w) (hv' : v < 4294967296) : crc_below.f (v : Int) (w : Int) = some true := by
  unfold crc_below.f
  by_cases e : (w : Int) = 32
  · rw [if_pos e]
  · rw [if_neg e, if_pos (by omega)]
    have h0 : v / 2 ^ w = 0 := Nat.div_eq_of_lt hv
    rw [shr_u32 v w hw, h0]; rfl
theorem below_no (v w : Nat) (hw : w < 32) (hv : 2 ^ w ≤ v) : crc_below.f (v : Int) (w : Int) = some false := by
  unfold crc_below.f
  rw [if_neg (by omega), if_pos (by omega)]
  have h0 : 0 < v / 2 ^ w := Nat.div_pos hv (Nat.two_pow_pos _)
  rw [shr_u32 v w (by omega)]
  generalize v / 2 ^ w = q at *
  simp; omega

theorem sum8_ev (p f last : Nat) (t : Bool) (l : List Nat) (hp : p < 2 ^ 8) (hf : f < 2 ^ 8) (hlast : last < 2 ^ 8) (hl : ∀ x ∈ l, x < 256) (hlen : l.length < 9223372036854775807) :
    Ev (fun k => crc_Sum.f k 8 (p : Int) (f : Int) t (last : Int) (ints l)) (((sum 8 p f t last l : Nat) : Int), 0) := by
  have hp4 : p < 4294967296 := Nat.lt_of_lt_of_le hp (by decide)
  have hf4 : f < 4294967296 := Nat.lt_of_lt_of_le hf (by decide)
  have hl4 : last < 4294967296 := Nat.lt_of_lt_of_le hlast (by decide)
  have hd : div 8 p t f l < 2 ^ 8 := div_lt (by omega) hp t hf hl
  have hd4 : div 8 p t f l < 4294967296 := Nat.lt_of_lt_of_le hd (by decide)
  have ed : ((div 8 p t f l : Nat) : Int) % 4294967296 = ((div 8 p t f l : Nat) : Int) := by omega
  have h1 : Ev (fun k => crc_Sum.j1 k (ints l) false 8 (p : Int) (f : Int) t (last : Int)) (((sum 8 p f t last l : Nat) : Int), 0) := by
    have e8 : (p : Int) % 256 = p := by omega
    have e9 : (f : Int) % 256 = f := by omega
    have hdiv := div8_ev p f hp hf t l hl hlen
    cases t with
    | true =>
      have htl : turn 8 (div 8 p true f l) < 4294967296 := Nat.lt_of_lt_of_le (turn_lt _ _) (by decide)
      have ht := turn_ev (div 8 p true f l) 8 hd4 (by omega) (by omega)
      have ex := Go.u32_xor_nat (turn 8 (div 8 p true f l)) last htl hl4
      have hfin : Ev (fun k => (crc_Turn.f k (((div 8 p true f l : Nat) : Int) % 4294967296) 8).bind fun c => some ((Go.bits .xor .u32 c (last : Int), (0 : Int)))) (((sum 8 p f true last l : Nat) : Int), 0) := by
        try rw [ed]
        refine Ev.bind (f := fun _ c => some ((Go.bits .xor .u32 c (last : Int), (0 : Int)))) ht ?_
        rw [ex]; simp only [sum, if_true]; exact Ev.now _
      refine Ev.step (fun k => ?_) (Ev.bind (f := fun k (c : Int) => (crc_Turn.f k (c % 4294967296) 8).bind fun c => some ((Go.bits .xor .u32 c (last : Int), (0 : Int)))) hdiv hfin)
      simp only [crc_Sum.j1, u16w, e8, e9]
      rfl
    | false =>
      have ex := Go.u32_xor_nat (div 8 p false f l) last hd4 hl4
      have hfin : Ev (fun k : Nat => some ((Go.bits .xor .u32 (((div 8 p false f l : Nat) : Int) % 4294967296) (last : Int), (0 : Int)))) (((sum 8 p f false last l : Nat) : Int), 0) := by
        (try rw [ed]); rw [ex]; simp only [sum, Bool.false_eq_true, if_false]; exact Ev.now _
      refine Ev.step (fun k => ?_) (Ev.bind (f := fun k (c : Int) => some ((Go.bits .xor .u32 (c % 4294967296) (last : Int), (0 : Int)))) hdiv hfin)
      simp only [crc_Sum.j1, u16w, e8, e9]
      rfl
  have h0 : Ev (fun k => crc_Sum.j0 k (ints l) false 8 (p : Int) (f : Int) t (last : Int)) (((sum 8 p f t last l : Nat) : Int), 0) := by
    refine Ev.step (fun k => ?_) h1
    have b1 := below_yes p 8 (by omega) hp hp4
    have b2 := below_yes f 8 (by omega) hf hf4
    have b3 := below_yes last 8 (by omega) hlast hl4
    simp only [crc_Sum.j0]
    rw [show ((8 : Int)) = ((8 : Nat) : Int) from rfl, b1, b2, b3]
    rfl
  refine Ev.congr (fun k => ?_) h0
  unfold crc_Sum.f
  rfl
theorem sum16_ev (p f last : Nat) (t : Bool) (l : List Nat) (hp : p < 2 ^ 16) (hf : f < 2 ^ 16) (hlast : last < 2 ^ 16) (hl : ∀ x ∈ l, x < 256) (hlen : l.length < 9223372036854775807) :
    Ev (fun k => crc_Sum.f k 16 (p : Int) (f : Int) t (last : Int) (ints l)) (((sum 16 p f t last l : Nat) : Int), 0) := by
  have hp4 : p < 4294967296 := Nat.lt_of_lt_of_le hp (by decide)
  have hf4 : f < 4294967296 := Nat.lt_of_lt_of_le hf (by decide)
  have hl4 : last < 4294967296 := Nat.lt_of_lt_of_le hlast (by decide)
  have hd : div 16 p t f l < 2 ^ 16 := div_lt (by omega) hp t hf hl
  have hd4 : div 16 p t f l < 4294967296 := Nat.lt_of_lt_of_le hd (by decide)
  have ed : ((div 16 p t f l : Nat) : Int) % 4294967296 = ((div 16 p t f l : Nat) : Int) := by omega
  have h1 : Ev (fun k => crc_Sum.j1 k (ints l) false 16 (p : Int) (f : Int) t (last : Int)) (((sum 16 p f t last l : Nat) : Int), 0) := by
    have e8 : (p : Int) % 65536 = p := by omega
    have e9 : (f : Int) % 65536 = f := by omega
    have hdiv := div16_ev p f hp hf t l hl hlen
    cases t with
    | true =>
      have htl : turn 16 (div 16 p true f l) < 4294967296 := Nat.lt_of_lt_of_le (turn_lt _ _) (by decide)
      have ht := turn_ev (div 16 p true f l) 16 hd4 (by omega) (by omega)
      have ex := Go.u32_xor_nat (turn 16 (div 16 p true f l)) last htl hl4
      have hfin : Ev (fun k => (crc_Turn.f k (((div 16 p true f l : Nat) : Int) % 4294967296) 16).bind fun c => some ((Go.bits .xor .u32 c (last : Int), (0 : Int)))) (((sum 16 p f true last l : Nat) : Int), 0) := by
        try rw [ed]
        refine Ev.bind (f := fun _ c => some ((Go.bits .xor .u32 c (last : Int), (0 : Int)))) ht ?_
        rw [ex]; simp only [sum, if_true]; exact Ev.now _
      refine Ev.step (fun k => ?_) (Ev.bind (f := fun k (c : Int) => (crc_Turn.f k (c % 4294967296) 16).bind fun c => some ((Go.bits .xor .u32 c (last : Int), (0 : Int)))) hdiv hfin)
      simp only [crc_Sum.j1, u16w, e8, e9]
      rfl
    | false =>
      have ex := Go.u32_xor_nat (div 16 p false f l) last hd4 hl4
      have hfin : Ev (fun k : Nat => some ((Go.bits .xor .u32 (((div 16 p false f l : Nat) : Int) % 4294967296) (last : Int), (0 : Int)))) (((sum 16 p f false last l : Nat) : Int), 0) := by
        (try rw [ed]); rw [ex]; simp only [sum, Bool.false_eq_true, if_false]; exact Ev.now _
      refine Ev.step (fun k => ?_) (Ev.bind (f := fun k (c : Int) => some ((Go.bits .xor .u32 (c % 4294967296) (last : Int), (0 : Int)))) hdiv hfin)
      simp only [crc_Sum.j1, u16w, e8, e9]
      rfl
  have h0 : Ev (fun k => crc_Sum.j0 k (ints l) false 16 (p : Int) (f : Int) t (last : Int)) (((sum 16 p f t last l : Nat) : Int), 0) := by
    refine Ev.step (fun k => ?_) h1
    have b1 := below_yes p 16 (by omega) hp hp4
    have b2 := below_yes f 16 (by omega) hf hf4
    have b3 := below_yes last 16 (by omega) hlast hl4
    simp only [crc_Sum.j0]
    rw [show ((16 : Int)) = ((16 : Nat) : Int) from rfl, b1, b2, b3]
    rfl
  refine Ev.congr (fun k => ?_) h0
  unfold crc_Sum.f
  rfl
theorem sum32_ev (p f last : Nat) (t : Bool) (l : List Nat) (hp : p < 2 ^ 32) (hf : f < 2 ^ 32) (hlast : last < 2 ^ 32) (hl : ∀ x ∈ l, x < 256) (hlen : l.length < 9223372036854775807) :
    Ev (fun k => crc_Sum.f k 32 (p : Int) (f : Int) t (last : Int) (ints l)) (((sum 32 p f t last l : Nat) : Int), 0) := by
  have hp4 : p < 4294967296 := Nat.lt_of_lt_of_le hp (by decide)
  have hf4 : f < 4294967296 := Nat.lt_of_lt_of_le hf (by decide)
  have hl4 : last < 4294967296 := Nat.lt_of_lt_of_le hlast (by decide)
  have hd : div 32 p t f l < 2 ^ 32 := div_lt (by omega) hp t hf hl
  have hd4 : div 32 p t f l < 4294967296 := Nat.lt_of_lt_of_le hd (by decide)
  have ed : ((div 32 p t f l : Nat) : Int) % 4294967296 = ((div 32 p t f l : Nat) : Int) := by omega
  have h1 : Ev (fun k => crc_Sum.j1 k (ints l) false 32 (p : Int) (f : Int) t (last : Int)) (((sum 32 p f t last l : Nat) : Int), 0) := by
    have e8 : (p : Int) % 4294967296 = p := by omega
    have e9 : (f : Int) % 4294967296 = f := by omega
    have hdiv := div32_ev p f hp hf t l hl hlen
    cases t with
    | true =>
      have htl : turn 32 (div 32 p true f l) < 4294967296 := Nat.lt_of_lt_of_le (turn_lt _ _) (by decide)
      have ht := turn_ev (div 32 p true f l) 32 hd4 (by omega) (by omega)
      have ex := Go.u32_xor_nat (turn 32 (div 32 p true f l)) last htl hl4
      have hfin : Ev (fun k => (crc_Turn.f k (((div 32 p true f l : Nat) : Int)) 32).bind fun c => some ((Go.bits .xor .u32 c (last : Int), (0 : Int)))) (((sum 32 p f true last l : Nat) : Int), 0) := by
        try rw [ed]
        refine Ev.bind (f := fun _ c => some ((Go.bits .xor .u32 c (last : Int), (0 : Int)))) ht ?_
        rw [ex]; simp only [sum, if_true]; exact Ev.now _
      refine Ev.step (fun k => ?_) (Ev.bind (f := fun k (c : Int) => (crc_Turn.f k (c) 32).bind fun c => some ((Go.bits .xor .u32 c (last : Int), (0 : Int)))) hdiv hfin)
      simp only [crc_Sum.j1, u16w, e8, e9]
      rfl
    | false =>
      have ex := Go.u32_xor_nat (div 32 p false f l) last hd4 hl4
      have hfin : Ev (fun k : Nat => some ((Go.bits .xor .u32 (((div 32 p false f l : Nat) : Int)) (last : Int), (0 : Int)))) (((sum 32 p f false last l : Nat) : Int), 0) := by
        (try rw [ed]); rw [ex]; simp only [sum, Bool.false_eq_true, if_false]; exact Ev.now _
      refine Ev.step (fun k => ?_) (Ev.bind (f := fun k (c : Int) => some ((Go.bits .xor .u32 (c) (last : Int), (0 : Int)))) hdiv hfin)
      simp only [crc_Sum.j1, u16w, e8, e9]
      rfl
  have h0 : Ev (fun k => crc_Sum.j0 k (ints l) false 32 (p : Int) (f : Int) t (last : Int)) (((sum 32 p f t last l : Nat) : Int), 0) := by
    refine Ev.step (fun k => ?_) h1
    have b1 := below_yes p 32 (by omega) hp hp4
    have b2 := below_yes f 32 (by omega) hf hf4
    have b3 := below_yes last 32 (by omega) hlast hl4
    simp only [crc_Sum.j0]
    rw [show ((32 : Int)) = ((32 : Nat) : Int) from rfl, b1, b2, b3]
    rfl
  refine Ev.congr (fun k => ?_) h0
  unfold crc_Sum.f
  rfl
end Go.Proofs.Ytcldlfhnmkogeaa.RunPSum
