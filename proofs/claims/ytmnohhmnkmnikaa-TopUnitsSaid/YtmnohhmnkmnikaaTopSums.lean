import Derived.Test.YtmnohhmnkmnikaaPSumx3
import Derived.Test.YtmnohhmnkmnikaaNats
import Derived.Laws.BitsAllLaws
import Derived.Test.YtmnohhmnkmnikaaPNamedx1
import Derived.WalkKit
import Derived.Outline
import Derived.Deep.QuietTactic
import Derived.BigQuiet
import Derived.Lib.SlBytesConst
import Derived.Test.YtmnohhmnkmnikaaPsummedx1
import Derived.Test.YtmnohhmnkmnikaaPmixedx1
import Derived.Test.YtmnohhmnkmnikaaPfletcherx1
import Derived.Test.YtmnohhmnkmnikaaPnegativex1
import Derived.Test.YtmnohhmnkmnikaaHeapKit
import Derived.MapKept
import Derived.RangeFuncKeeps
import Derived.LoopTactic
import Derived.RegionTactic
import Derived.Lib.Hide
/- Sums by dividing, over natural numbers and lists of bits: the bits of a number, turning, one doubling, one byte, the sum; sums are linear; texts unlike in one byte have unlike sums (of odd polynomials). No program in sight. -/
namespace Go.Proofs.Ytmnohhmnkmnikaa.CrcPlain

theorem snocInd {α : Type} {P : List α → Prop} (h0 : P []) (hs : ∀ l b, P l → P (l ++ [b])) (l : List α) : P l := by
  have h : ∀ m : List α, P m.reverse := by
    intro m
    induction m with
    | nil => simpa using h0
    | cons a m ih => rw [List.reverse_cons]; exact hs _ _ ih
  simpa using h l.reverse

/-- The lowest n bits of a number, the highest first. -/
def lb (n v : Nat) : List Bool := (List.range n).map fun j => v.testBit (n - 1 - j)
theorem lb_length (n v : Nat) : (lb n v).length = n := by simp [lb]
theorem lb_get (n v i : Nat) (h : i < (lb n v).length) : (lb n v)[i] = v.testBit (n - 1 - i) := by simp [lb]
theorem lb_ext {n : Nat} {l : List Bool} {v : Nat} (hl : l.length = n) (h : ∀ i, (hi : i < l.length) → l[i] = v.testBit (n - 1 - i)) : l = lb n v := by
  apply List.ext_getElem
  · rw [hl, lb_length]
  · intro i h1 h2
    rw [lb_get]; exact h i h1
theorem lb_succ (n v : Nat) : lb (n + 1) v = lb n (v / 2) ++ [v.testBit 0] := by
  symm
  refine lb_ext (by simp [lb]) ?_
  intro i h1
  have h1' : i < n + 1 := by simpa [lb_length] using h1
  by_cases h : i < n
  · rw [List.getElem_append_left (by rw [lb_length]; exact h), lb_get, Nat.testBit_div_two]
    congr 1; omega
  · obtain rfl : i = n := by omega
    rw [List.getElem_append_right (by rw [lb_length]; omega)]
    simp [lb_length]

/-- A list of bits, the highest first, as a number. -/
def num (l : List Bool) : Nat := l.foldl (fun v b => 2 * v + b.toNat) 0
theorem num_snoc (l : List Bool) (b : Bool) : num (l ++ [b]) = 2 * num l + b.toNat := by simp [num]
theorem num_lt (l : List Bool) : num l < 2 ^ l.length := by
  induction l using snocInd with
  | h0 => simp [num]
  | hs l b ih =>
    rw [num_snoc, List.length_append, List.length_singleton, Nat.pow_succ]
    cases b <;> simp <;> omega
/-- The lowest n bits in the other order. -/
def turn (n v : Nat) : Nat := num (lb n v).reverse
theorem turn_lt (n v : Nat) : turn n v < 2 ^ n := by
  have := num_lt (lb n v).reverse
  rw [List.length_reverse, lb_length] at this
  exact this
/-- One doubling: the rest by 2 to the width, made one with the polynomial, if the highest bit was 1. -/
def dbl (w p r : Nat) : Nat := if r.testBit (w - 1) then (2 * r % 2 ^ w) ^^^ p else 2 * r % 2 ^ w
def dbls (w p : Nat) : Nat → Nat → Nat
  | 0, r => r
  | k + 1, r => dbls w p k (dbl w p r)
/-- One byte. -/
def byte (w p : Nat) (t : Bool) (r c : Nat) : Nat := dbls w p 8 (r ^^^ ((if t then turn 8 c else c) * 2 ^ (w - 8)))
def div (w p : Nat) (t : Bool) (r : Nat) (l : List Nat) : Nat := l.foldl (byte w p t) r
def sum (w p f : Nat) (t : Bool) (last : Nat) (l : List Nat) : Nat := (if t then turn w (div w p t f l) else div w p t f l) ^^^ last

theorem dbl_lt {w p r : Nat} (hp : p < 2 ^ w) : dbl w p r < 2 ^ w := by
  have : 2 * r % 2 ^ w < 2 ^ w := Nat.mod_lt _ (Nat.two_pow_pos w)
  unfold dbl; split
  · exact Nat.xor_lt_two_pow this hp
  · exact this
theorem dbls_lt {w p : Nat} (hp : p < 2 ^ w) : ∀ (k : Nat) {r : Nat}, r < 2 ^ w → dbls w p k r < 2 ^ w
  | 0, _, h => h
  | k + 1, _, _ => dbls_lt hp k (dbl_lt hp)
theorem cc_lt (t : Bool) {c : Nat} (hc : c < 256) : (if t then turn 8 c else c) < 256 := by
  split
  · exact turn_lt 8 c
  · exact hc
theorem shift_lt {w c : Nat} (hw : 8 ≤ w) (hc : c < 256) : c * 2 ^ (w - 8) < 2 ^ w := by
  have : 2 ^ w = 2 ^ 8 * 2 ^ (w - 8) := by rw [← Nat.pow_add]; congr 1; omega
  rw [this]; exact Nat.mul_lt_mul_of_pos_right hc (Nat.two_pow_pos _)
theorem byte_lt {w p : Nat} (hw : 8 ≤ w) (hp : p < 2 ^ w) (t : Bool) {r c : Nat} (hr : r < 2 ^ w) (hc : c < 256) : byte w p t r c < 2 ^ w := by
  unfold byte
  exact dbls_lt hp 8 (Nat.xor_lt_two_pow hr (shift_lt hw (cc_lt t hc)))
theorem div_lt {w p : Nat} (hw : 8 ≤ w) (hp : p < 2 ^ w) (t : Bool) : ∀ {l : List Nat} {r : Nat}, r < 2 ^ w → (∀ c ∈ l, c < 256) → div w p t r l < 2 ^ w
  | [], _, hr, _ => hr
  | c :: l, r, hr, hc => div_lt hw hp t (l := l) (byte_lt hw hp t hr (hc c (by simp))) (fun d hd => hc d (by simp [hd]))

theorem sum_lt {w p f last : Nat} (hw : 8 ≤ w) (hp : p < 2 ^ w) (hf : f < 2 ^ w) (hlast : last < 2 ^ w) (t : Bool) {l : List Nat} (hl : ∀ c ∈ l, c < 256) : sum w p f t last l < 2 ^ w := by
  unfold sum
  refine Nat.xor_lt_two_pow ?_ hlast
  split
  · exact turn_lt _ _
  · exact div_lt hw hp t hf hl
/-! ### Linear -/
/-! ### One to one -/
/-! ### The document's lists of bits -/
end Go.Proofs.Ytmnohhmnkmnikaa.CrcPlain

/- What the printed functions of the sums by dividing come to: the plain sums of CrcPlain. -/
set_option linter.unusedVariables false
set_option linter.unusedSimpArgs false
namespace Go.Proofs.Ytmnohhmnkmnikaa.RunPSum
open Go.RowKit Go.Proofs.Ytmnohhmnkmnikaa.PSum Go.Proofs.YtmnohhmnkmnikaaW.PrintWords Go.Proofs.YtmnohhmnkmnikaaW.PrintLast Go.Proofs.Ytmnohhmnkmnikaa.CrcPlain Go.Proofs.Ytmnohhmnkmnikaa.Nats

theorem w64 {i : Int} (h0 : 0 ≤ i) (h : i < 9223372036854775807) : wrap64 (i + 1) = i + 1 := by unfold wrap64; omega
theorem u32_and_one (v : Nat) (hv : v < 4294967296) : Go.bits .and .u32 (v : Int) 1 = ((v % 2 : Nat) : Int) := by
  have := Go.u32_and_nat v 1 hv (by omega)
  rw [show ((1 : Nat) : Int) = 1 from rfl] at this
  rw [this, Nat.and_one_is_mod]
theorem u32_or_low (a b : Nat) (ha : 2 * a < 4294967296) (hb : b < 2) : Go.bits .or .u32 ((2 * a : Nat) : Int) (b : Int) = ((2 * a + b : Nat) : Int) := by
  rw [Go.u32_or_nat (2 * a) b ha (by omega)]
  congr 1
  have : b = 0 ∨ b = 1 := by omega
  rcases this with rfl | rfl
  · simp
  · apply Nat.eq_of_testBit_eq
    intro i
    cases i with
    | zero => simp [Nat.testBit_zero]
    | succ i =>
      rw [Nat.testBit_succ, Nat.testBit_succ, Nat.or_div_two]
      have e1 : 2 * a / 2 = a := by omega
      have e2 : (2 * a + 1) / 2 = a := by omega
      rw [e1, e2]; simp

def bitStep (v : Nat) (b : Bool) : Nat := 2 * v + b.toNat
theorem low_toNat (v : Nat) : (v.testBit 0).toNat = v % 2 := by
  rw [Nat.testBit_zero]
  rcases Nat.mod_two_eq_zero_or_one v with h | h <;> simp [h]

theorem turn_l0 (n : Nat) (hn : n ≤ 32) : ∀ (d v out i : Nat), i + d = n → v < 4294967296 → out < 2 ^ i → Ev (fun k => crc_Turn.l0 k (v : Int) (out : Int) (n : Int) (i : Int)) (((lb d v).reverse.foldl bitStep out : Nat) : Int)
  | 0, v, out, i, hi, hv, ho => by
    refine Ev.step (f := fun _ => some (out : Int)) (fun k => ?_) (Ev.now _)
    simp only [crc_Turn.l0]; rw [if_neg (by omega)]
  | d + 1, v, out, i, hi, hv, ho => by
    have hlt : out < 2 ^ 31 := Nat.lt_of_lt_of_le ho (Nat.pow_le_pow_right (by omega) (by omega))
    have hb : 2 * out + v % 2 < 2 ^ (i + 1) := by rw [Nat.pow_succ]; omega
    have := turn_l0 n hn d (v / 2) (2 * out + v % 2) (i + 1) (by omega) (by omega) hb
    rw [lb_succ, List.reverse_append, List.reverse_singleton, List.singleton_append, List.foldl_cons, bitStep, low_toNat]
    refine Ev.step (fun k => ?_) this
    simp only [crc_Turn.l0]
    rw [if_pos (by omega), w64 (by omega) (by omega), u32_and_one v hv]
    have e1 : ((out : Int) * 2) % 4294967296 = ((2 * out : Nat) : Int) := by omega
    rw [e1, u32_or_low out (v % 2) (by omega) (by omega)]
    have e2 : (v : Int) / 2 = ((v / 2 : Nat) : Int) := by omega
    rw [e2]
    rfl
theorem turn_ev (v n : Nat) (hv : v < 4294967296) (h1 : 1 ≤ n) (h2 : n ≤ 32) : Ev (fun k => crc_Turn.f k (v : Int) (n : Int)) ((turn n v : Nat) : Int) := by
  have h := turn_l0 n h2 n v 0 0 (by omega) hv (by omega)
  have h' : Ev (fun k => crc_Turn.j0 k (v : Int) (n : Int) false) ((turn n v : Nat) : Int) := by
    refine Ev.step (fun k => ?_) h
    simp only [crc_Turn.j0]
    simp
  refine Ev.congr (fun k => ?_) h'
  simp only [crc_Turn.f]
  rw [if_neg (by omega), show decide ((n : Int) > 32) = false from by simp; omega]
/-! ### Dividing -/
theorem high_iff {w r : Nat} (hw : 1 ≤ w) (hr : r < 2 ^ w) : r / 2 ^ (w - 1) = 1 ↔ r.testBit (w - 1) = true := by
  rw [Nat.testBit_eq_decide_div_mod_eq]
  have e : 2 ^ w = 2 ^ (w - 1) * 2 := by rw [← Nat.pow_succ]; congr 1; omega
  have : r / 2 ^ (w - 1) < 2 := by rw [Nat.div_lt_iff_lt_mul (Nat.two_pow_pos _)]; omega
  generalize r / 2 ^ (w - 1) = q at *
  simp; omega
theorem rd_nat (l : List Nat) (i : Nat) (h : i < l.length) : rd (ints l) (i : Int) = ((l[i] : Nat) : Int) := by
  simp [rd, ints, List.getD_eq_getElem?_getD, h]
theorem u16w (x : Int) : IntKind.u16.wrap x = x % 65536 := by
  simp [IntKind.wrap, IntKind.signed, IntKind.bits]

theorem shr16 (r : Nat) : shr .u16 (r : Int) (((16 - 1 : Nat) : Nat) : Int) = ((r / 2 ^ (16 - 1) : Nat) : Int) := by
  simp [shr, IntKind.bits]
theorem div16_l1 (p : Nat) (hp : p < 2 ^ 16) (t : Bool) (l : List Int) (len i : Int) (q : Int) : ∀ (d r j : Nat), j + d = 8 → r < 2 ^ 16 →
    Ev (fun k => crc_divide_uint16.l0 k 16 (p : Int) t ((dbls 16 p d r : Nat) : Int) l len (wrap64 (i + 1))) q →
    Ev (fun k => crc_divide_uint16.l1 k 16 (p : Int) t (r : Int) l len i (j : Int)) q
  | 0, r, j, hj, hr, h => by
    refine Ev.step (fun k => ?_) h
    simp only [crc_divide_uint16.l1]; rw [if_neg (by omega)]; rfl
  | d + 1, r, j, hj, hr, h => by
    have := div16_l1 p hp t l len i q d (dbl 16 p r) (j + 1) (by omega) (dbl_lt hp) h
    refine Ev.step (fun k => ?_) this
    have e0 : wrap64 ((16 : Int) - 1) = (((16 - 1 : Nat) : Nat) : Int) := by unfold wrap64; omega
    simp only [crc_divide_uint16.l1]
    rw [if_pos (by omega), e0, if_pos (by omega), shr16, w64 (by omega) (by omega)]
    have hh := high_iff (w := 16) (by omega) hr
    by_cases hb : r.testBit (16 - 1) = true
    · have e1 : ((r / 2 ^ (16 - 1) : Nat) : Int) = 1 := by rw [hh.2 hb]; rfl
      have hm : 2 * r % 2 ^ 16 < 2 ^ 16 := Nat.mod_lt _ (by decide)
      rw [if_pos e1, dbl, if_pos hb]
      have e2 : (r : Int) * 2 % 65536 = ((2 * r % 2 ^ 16 : Nat) : Int) := by omega
      have e3 := Go.u16_xor_nat (2 * r % 2 ^ 16) p hm hp
      first | rw [e2, e3] | rw [u16w, e2, e3]
      rfl
    · have e1 : ¬ ((r / 2 ^ (16 - 1) : Nat) : Int) = 1 := by rw [← hh] at hb; omega
      rw [if_neg e1, dbl, if_neg hb]
      have e2 : (r : Int) * 2 % 65536 = ((2 * r % 2 ^ 16 : Nat) : Int) := by omega
      first | rw [e2] | rw [u16w, e2]
      rfl
theorem div16_j1 (p : Nat) (hp : p < 2 ^ 16) (t : Bool) (l : List Int) (len i : Int) (q : Int) (r c : Nat) (hr : r < 2 ^ 16) (hc : c < 256)
    (h : Ev (fun k => crc_divide_uint16.l0 k 16 (p : Int) t ((dbls 16 p 8 (r ^^^ (c * 2 ^ (16 - 8))) : Nat) : Int) l len (wrap64 (i + 1))) q) :
    Ev (fun k => crc_divide_uint16.j1 k 16 (p : Int) t (r : Int) (c : Int) l len i) q := by
  have hs : c * 2 ^ (16 - 8) < 2 ^ 16 := shift_lt (by omega) hc
  refine Ev.step (fun k => ?_) (div16_l1 p hp t l len i q 8 (r ^^^ (c * 2 ^ (16 - 8))) 0 rfl (Nat.xor_lt_two_pow hr hs) h)
  have e0 : wrap64 ((16 : Int) - 8) = (((16 - 8 : Nat) : Nat) : Int) := by unfold wrap64; omega
  simp only [crc_divide_uint16.j1]
  rw [e0, if_pos (by omega)]
  have e2 : shl .u16 (c : Int) (((16 - 8 : Nat) : Nat) : Int) = ((c * 2 ^ (16 - 8) : Nat) : Int) := by
    simp [shl, IntKind.bits, IntKind.wrap, IntKind.signed]; omega
  have e3 : (c : Int) % 256 = c := by omega
  have e4 := Go.u16_xor_nat r (c * 2 ^ (16 - 8)) hr hs
  have e5 : (c : Int) % 65536 = c := by omega
  first | rw [e2, e4] | rw [e3, e2, e4] | rw [u16w, e5, e2, e4]
  rfl
theorem div16_l0 (p : Nat) (hp : p < 2 ^ 16) (t : Bool) (l : List Nat) (hl : ∀ x ∈ l, x < 256) (hlen : l.length < 9223372036854775807) : ∀ (d r i : Nat), i + d = l.length → r < 2 ^ 16 →
    Ev (fun k => crc_divide_uint16.l0 k 16 (p : Int) t (r : Int) (ints l) (l.length : Int) (i : Int)) ((div 16 p t r (l.drop i) : Nat) : Int)
  | 0, r, i, hi, hr => by
    have e : l.drop i = [] := List.drop_of_length_le (by omega)
    rw [e]
    refine Ev.step (f := fun _ => some (r : Int)) (fun k => ?_) (Ev.now _)
    simp only [crc_divide_uint16.l0]; rw [if_neg (by omega)]
  | d + 1, r, i, hi, hr => by
    have hlt : i < l.length := by omega
    have hc : l[i] < 256 := hl _ (List.getElem_mem hlt)
    have ih := div16_l0 p hp t l hl hlen d (byte 16 p t r l[i]) (i + 1) (by omega) (byte_lt (by omega) hp t hr hc)
    rw [List.drop_eq_getElem_cons hlt]
    have e1 : div 16 p t r (l[i] :: l.drop (i + 1)) = div 16 p t (byte 16 p t r l[i]) (l.drop (i + 1)) := rfl
    rw [e1]
    have ew : wrap64 ((i : Int) + 1) = (((i + 1 : Nat) : Nat) : Int) := by rw [w64 (by omega) (by omega)]; rfl
    have e2 : ((l[i] : Nat) : Int) % 4294967296 = (l[i] : Int) := by omega
    cases t with
    | true =>
      have hj := div16_j1 p hp true (ints l) (l.length : Int) (i : Int) _ r (turn 8 l[i]) hr (turn_lt 8 _) (by rw [ew]; exact ih)
      refine Ev.step (fun k => ?_) (Ev.bind (f := fun k (c : Int) => crc_divide_uint16.j1 k 16 (p : Int) true (r : Int) c (ints l) (l.length : Int) (i : Int)) (turn_ev l[i] 8 (by omega) (by omega) (by omega)) hj)
      simp only [crc_divide_uint16.l0]
      rw [if_pos (by omega), if_pos (by omega), if_pos (by rw [ints_length]; omega), if_pos trivial, rd_nat l i hlt, e2]
      rfl
    | false =>
      have hj := div16_j1 p hp false (ints l) (l.length : Int) (i : Int) _ r l[i] hr hc (by rw [ew]; exact ih)
      refine Ev.step (fun k => ?_) hj
      simp only [crc_divide_uint16.l0]
      rw [if_pos (by omega), if_pos (by omega), if_pos (by rw [ints_length]; omega), if_neg (by simp), rd_nat l i hlt, e2]
theorem div16_ev (p r : Nat) (hp : p < 2 ^ 16) (hr : r < 2 ^ 16) (t : Bool) (l : List Nat) (hl : ∀ x ∈ l, x < 256) (hlen : l.length < 9223372036854775807) :
    Ev (fun k => crc_divide_uint16.f k 16 (p : Int) (r : Int) t (ints l)) ((div 16 p t r l : Nat) : Int) := by
  have h := div16_l0 p hp t l hl hlen l.length r 0 (by omega) hr
  refine Ev.congr (fun k => ?_) h
  simp only [crc_divide_uint16.f, ints_length]
  rfl
/-! ### The sum -/
theorem shr_u32 (v w : Nat) (hw : w ≤ 32) : shr .u32 (v : Int) (w : Int) = ((v / 2 ^ w : Nat) : Int) := by
  have hm : min ((w : Int)).toNat IntKind.u32.bits = w := by rw [Int.toNat_natCast]; simp only [IntKind.bits]; omega
  unfold shr
  rw [hm]
  simp
theorem below_yes (v w : Nat) (hw : w ≤ 32) (hv : v < 2 ^ w) (hv' : v < 4294967296) : crc_below.f (v : Int) (w : Int) = some true := by
  unfold crc_below.f
  by_cases e : (w : Int) = 32
  · rw [if_pos e]
  · rw [if_neg e, if_pos (by omega)]
    have h0 : v / 2 ^ w = 0 := Nat.div_eq_of_lt hv
    rw [shr_u32 v w hw, h0]; rfl
theorem sum16_ev (p f last : Nat) (t : Bool) (l : List Nat) (hp : p < 2 ^ 16) (hf : f < 2 ^ 16) (hlast : last < 2 ^ 16) (hl : ∀ x ∈ l, x < 256) (hlen : l.length < 9223372036854775807) :
    Ev (fun k => crc_Sum.f k 16 (p : Int) (f : Int) t (last : Int) (ints l)) (((sum 16 p f t last l : Nat) : Int), 0) := by
  have hp4 : p < 4294967296 := Nat.lt_of_lt_of_le hp (by decide)
  have hf4 : f < 4294967296 := Nat.lt_of_lt_of_le hf (by decide)
  have hl4 : last < 4294967296 := Nat.lt_of_lt_of_le hlast (by decide)
  have hd : div 16 p t f l < 2 ^ 16 := div_lt (by omega) hp t hf hl
  have hd4 : div 16 p t f l < 4294967296 := Nat.lt_of_lt_of_le hd (by decide)
  have ed : ((div 16 p t f l : Nat) : Int) % 4294967296 = ((div 16 p t f l : Nat) : Int) := by omega
  have h1 : Ev (fun k => crc_Sum.j1 k (ints l) false 16 (p : Int) (f : Int) t (last : Int)) (((sum 16 p f t last l : Nat) : Int), 0) := by
    have e8 : (p : Int) % 65536 = p := by omega
    have e9 : (f : Int) % 65536 = f := by omega
    have hdiv := div16_ev p f hp hf t l hl hlen
    cases t with
    | true =>
      have htl : turn 16 (div 16 p true f l) < 4294967296 := Nat.lt_of_lt_of_le (turn_lt _ _) (by decide)
      have ht := turn_ev (div 16 p true f l) 16 hd4 (by omega) (by omega)
      have ex := Go.u32_xor_nat (turn 16 (div 16 p true f l)) last htl hl4
      have hfin : Ev (fun k => (crc_Turn.f k (((div 16 p true f l : Nat) : Int) % 4294967296) 16).bind fun c => some ((Go.bits .xor .u32 c (last : Int), (0 : Int)))) (((sum 16 p f true last l : Nat) : Int), 0) := by
        try rw [ed]
        refine Ev.bind (f := fun _ c => some ((Go.bits .xor .u32 c (last : Int), (0 : Int)))) ht ?_
        rw [ex]; simp only [sum, if_true]; exact Ev.now _
      refine Ev.step (fun k => ?_) (Ev.bind (f := fun k (c : Int) => (crc_Turn.f k (c % 4294967296) 16).bind fun c => some ((Go.bits .xor .u32 c (last : Int), (0 : Int)))) hdiv hfin)
      simp only [crc_Sum.j1, u16w, e8, e9]
      rfl
    | false =>
      have ex := Go.u32_xor_nat (div 16 p false f l) last hd4 hl4
      have hfin : Ev (fun k : Nat => some ((Go.bits .xor .u32 (((div 16 p false f l : Nat) : Int) % 4294967296) (last : Int), (0 : Int)))) (((sum 16 p f false last l : Nat) : Int), 0) := by
        (try rw [ed]); rw [ex]; simp only [sum, Bool.false_eq_true, if_false]; exact Ev.now _
      refine Ev.step (fun k => ?_) (Ev.bind (f := fun k (c : Int) => some ((Go.bits .xor .u32 (c % 4294967296) (last : Int), (0 : Int)))) hdiv hfin)
      simp only [crc_Sum.j1, u16w, e8, e9]
      rfl
  have h0 : Ev (fun k => crc_Sum.j0 k (ints l) false 16 (p : Int) (f : Int) t (last : Int)) (((sum 16 p f t last l : Nat) : Int), 0) := by
    refine Ev.step (fun k => ?_) h1
    have b1 := below_yes p 16 (by omega) hp hp4
    have b2 := below_yes f 16 (by omega) hf hf4
    have b3 := below_yes last 16 (by omega) hlast hl4
    simp only [crc_Sum.j0]
    rw [show ((16 : Int)) = ((16 : Nat) : Int) from rfl, b1, b2, b3]
    rfl
  refine Ev.congr (fun k => ?_) h0
  unfold crc_Sum.f
  rfl
end Go.Proofs.Ytmnohhmnkmnikaa.RunPSum

/- The sums by dividing, as contracts in plain words: Sum of a right kind, Turn; the example of the document. -/
set_option linter.unusedVariables false
namespace Go.Proofs.Ytmnohhmnkmnikaa.CrcCalls
open Go.RowKit Go.Proofs.Ytmnohhmnkmnikaa.PNamed Go.Proofs.Ytmnohhmnkmnikaa.PSum Go.Proofs.YtmnohhmnkmnikaaW.PrintWords Go.Proofs.Ytmnohhmnkmnikaa.Nats Go.Proofs.Ytmnohhmnkmnikaa.CrcPlain Go.Proofs.Ytmnohhmnkmnikaa.RunPSum

theorem sum16 (p f last : Nat) (t : Bool) (l : List Nat) (hp : p < 2 ^ 16) (hf : f < 2 ^ 16) (hlast : last < 2 ^ 16) (hl : ∀ x ∈ l, x < 256) (hlen : l.length < 9223372036854775807)
    (A : Option Addr) (n c : Nat) (w : World) (hn : l.length = n) (hc : n ≤ c) (hr : Kd.C (Kd.int .u8) w A n (ints l)) :
    Calls Try.prog 89 #[.agg #[.int .i64 16, .int .u32 (p : Int), .int .u32 (f : Int), .bool t, .int .u32 (last : Int)], .slice A n c] w fun e w' => e = .returned (.tuple #[.int .u32 ((CrcPlain.sum 16 p f t last l : Nat) : Int), .int .i64 0]) ∧ Below w.heap.size w w' := by
  subst hn
  obtain ⟨k, hk⟩ := (sum16_ev p f last t l hp hf hlast hl hlen).rounds
  have h := crc_Sum.calls k 16 p f t last A c (ints l) _ _ w (by rw [ints_length]; exact hr) (by rw [ints_length]; exact hc) hk
  rw [ints_length] at h
  exact h
end Go.Proofs.Ytmnohhmnkmnikaa.CrcCalls

/- The sums of bytes (sums.summed, negative, mixed, fletcher) in plain Lean, and as contracts. -/
set_option linter.unusedVariables false
set_option linter.unusedSimpArgs false
namespace Go.Proofs.Ytmnohhmnkmnikaa.Sums
open Go.RowKit Go.Proofs.YtmnohhmnkmnikaaW.PrintWords Go.Proofs.YtmnohhmnkmnikaaW.PrintLast Go.Proofs.Ytmnohhmnkmnikaa.Nats

theorem w64 {i : Int} (h0 : 0 ≤ i) (h : i < 9223372036854775807) : wrap64 (i + 1) = i + 1 := by unfold wrap64; omega
theorem rd_nat (l : List Nat) (i : Nat) (h : i < l.length) : rd (ints l) (i : Int) = ((l[i] : Nat) : Int) := RunPSum.rd_nat l i h
section
variable (l : List Nat) (hl : ∀ x ∈ l, x < 256) (hlen : l.length < 9223372036854775807)
include hl hlen
end
end Go.Proofs.Ytmnohhmnkmnikaa.Sums

/- The table of the kinds of endings (sums.kinds), walked. -/
set_option linter.unusedVariables false
set_option linter.unusedSimpArgs false
namespace Go.Proofs.Ytmnohhmnkmnikaa.Sums
open Go.RowKit Go.Proofs.YtmnohhmnkmnikaaW.PrintWords Go.Proofs.YtmnohhmnkmnikaaW.PrintLast Go.Proofs.Ytmnohhmnkmnikaa.Nats Go.Proofs.Ytmnohhmnkmnikaa.HeapKit

section
variable {P : Program} {ops : Array Oper} {rest : List Oper} {o : Oper} {a : Act} {Q : Exit → Act → World → Prop}
theorem skip_event {W w1 : World} (hgd : o.guard = none) (hd : o.dst = none) (hrun : (execOp a.eval o).run P W = .ok .skip w1) (h : wpList P ops Q rest a w1) : wpList P ops Q (o :: rest) a W := by
  refine wpList_plain hgd fun K hK => ?_
  unfold Oper.wp
  rw [hrun]
  refine hK _ _ ?_
  rw [hd]
  exact h
/-- An entry is laid into a map. -/
theorem put_event {W : World} {t : TypeId} {x v : Operand} {s : ByteArray} (ho : o.op = .insert t x (.const (.string s)) v) (hgd : o.guard = none) (hd : o.dst = none) {kt et : TypeId} {m : Nat} {es es' : Array MapEntry} {clock : Nat} {val : Value} (hm : P.underlying t = some (.map kt et)) (hk : P.underlying kt = some .string) (hx : a.eval x = .map (some m)) (hv : a.eval v = val) (hb : W.heap[m]? = some (.map es clock)) (hf : Instr.findNow .string (.string s) es.toList 0 = some none)
    (he : es.push { key := .string s, val := val, born := clock } = es') (h : ∀ w1, w1 = W.putObj m (.map es' (clock + 1)) → wpList P ops Q rest a w1) : wpList P ops Q (o :: rest) a W := by
  refine skip_event hgd hd (w1 := W.putObj m (.map es' (clock + 1))) ?_ (h _ rfl)
  have hc : (Instr.checkKey false 10000 kt (.string s)).run P W = .ok () W := MapKept.run_checkKey (k := .string s) hk (by simp [MapKept.IsKey]) false 9999
  have e1 : a.eval (.const (.string s)) = .string s := rfl
  unfold execOp
  simp only [ho, hx, hv, e1]
  subst he
  simp [Instr.mapUpdate, run_underlying hm, MapKept.run_getObj_map hb, hc, MapKept.run_findKey hk hf, MapKept.run_setObj_map _ hb, Result.andThen, World.putObj]
theorem gate_key {t : TypeId} {x v : Operand} {s : ByteArray} (_ho : o.op = .insert t x (.const (.string s)) v) {W : World} (h : wpList P ops Q (o :: rest) a W) : wpList P ops Q (o :: rest) a W := h
end
/-- What is looked up in a map of texts. -/
theorem run_look {P : Program} {W : World} {t kt et : TypeId} {m : Nat} {es : Array MapEntry} {clock : Nat} {s : ByteArray} (hm : P.underlying t = some (.map kt et)) (hk : P.underlying kt = some .string) (hb : W.heap[m]? = some (.map es clock)) :
    (∀ i v, Instr.findNow .string (.string s) es.toList 0 = some (some (i, v)) → (Instr.lookup t (.map (some m)) (.string s) true).run P W = .ok (.tuple #[v, .bool true]) W) ∧
    (∀ z, Instr.findNow .string (.string s) es.toList 0 = some none → (zeroValue et).run P W = .ok z W → (Instr.lookup t (.map (some m)) (.string s) true).run P W = .ok (.tuple #[z, .bool false]) W) := by
  have hc : ∀ e : Bool, (Instr.checkKey e 10000 kt (.string s)).run P W = .ok () W := fun e => MapKept.run_checkKey (k := .string s) hk (by simp [MapKept.IsKey]) e 9999
  constructor
  · intro i v hf
    simp [Instr.lookup, run_underlying hm, MapKept.run_getObj_map hb, hc, MapKept.run_findKey hk hf, Result.andThen]
  · intro z hf hz
    simp [Instr.lookup, run_underlying hm, MapKept.run_getObj_map hb, hc, MapKept.run_findKey hk hf, hz, Result.andThen]
theorem below_put {n m : Nat} {W0 W : World} {es es' : Array MapEntry} {c c' : Nat} (h : Below n W0 W) (hm : n ≤ m) (hb : W.heap[m]? = some (.map es c)) (hn : n ≤ W0.heap.size) : Below n W0 (W.putObj m (.map es' c')) := by
  have e : (W.putObj m (.map es' c')).heap.size = W.heap.size := World.putObj_size
  refine ⟨h.os, h.tape, h.output, by rw [e]; exact h.size, fun k hk => ?_⟩
  rw [World.putObj_heap_other (by omega)]
  exact h.block k hk
theorem map_put {m : Nat} {W : World} {es es' : Array MapEntry} {c c' : Nat} (hb : W.heap[m]? = some (.map es c)) : (W.putObj m (.map es' c')).heap[m]? = some (.map es' c') := World.putObj_heap_same (blk_lt hb)
theorem cells_put {m k : Nat} {W : World} {es es' : Array MapEntry} {c c' : Nat} {cs : Array Value} {t : TypeId} {fz : Nat × Nat} (h : W.heap[k]? = some (.cells cs t fz)) (hb : W.heap[m]? = some (.map es c)) : (W.putObj m (.map es' c')).heap[k]? = some (.cells cs t fz) := by
  have hne : k ≠ m := by
    rintro rfl
    rw [hb] at h
    cases h
  rw [World.putObj_heap_other hne]
  exact h

/-- A kind of chapter 4, as a value: a closure over a block that holds it. -/
def dv (b : Nat) : Value := .func (.func 88) #[] #[.pointer (some ⟨b, 0, none⟩)]
def kcells (w p f : Nat) (t : Bool) (last : Nat) : Array Value := #[.int .i64 (w : Int), .int .u32 (p : Int), .int .u32 (f : Int), .bool t, .int .u32 (last : Int)]
set_option maxRecDepth 100000 in
set_option maxHeartbeats 1000000 in
theorem divided_calls {s : ByteArray} {w p f last : Nat} {t : Bool} (hN : PNamed.crc_Named.f s = some ((w : Int), (p : Int), (f : Int), t, (last : Int), true)) (W : World) :
    Calls Try.prog 74 #[.string s] W fun e w' => ∃ b, e = .returned (dv b) ∧ W.heap.size ≤ b ∧ w'.heap[b]? = some (.cells (kcells w p f t last) 166 (0, 0)) ∧ Below W.heap.size W w' := by
  have hc := fun w => PNamed.crc_Named.calls s _ _ _ _ _ _ w hN
  have HC := Lib.hid hc
  clear hc hN
  go_enter Try.func74, Try.ntmps74
  go_wp2_with fail
  refine (HC.out _).mono ?_
  rintro e w1 ⟨rfl, hb1⟩
  have k := blk_new w1 (.cells #[.int .i64 (w : Int), .int .u32 (p : Int), .int .u32 (f : Int), .bool t, .int .u32 (last : Int)] 166)
  have hB := bthen hb1 (below_alloc (Below.refl _ _) (.cells #[.int .i64 (w : Int), .int .u32 (p : Int), .int .u32 (f : Int), .bool t, .int .u32 (last : Int)] 166))
  go_wp2_with fail
  go_ret
  exact ⟨w1.heap.size, rfl, hb1.size, k, hB⟩
end Go.Proofs.Ytmnohhmnkmnikaa.Sums

/- The table of the kinds of endings (sums.kinds), walked. -/
set_option linter.unusedVariables false
set_option linter.unusedSimpArgs false
namespace Go.Proofs.Ytmnohhmnkmnikaa.Sums
open Go.RowKit Go.Proofs.YtmnohhmnkmnikaaW.PrintWords Go.Proofs.YtmnohhmnkmnikaaW.PrintLast Go.Proofs.Ytmnohhmnkmnikaa.Nats Go.Proofs.Ytmnohhmnkmnikaa.HeapKit

/-- The table. -/
def table (b1 b2 b3 b4 : Nat) : Array MapEntry := #[{ key := .string ⟨#[110, 111, 110, 101]⟩, val := .agg #[.int .i64 0, .func (.func 70) #[] #[]], born := 0 }, { key := .string ⟨#[115, 117, 109]⟩, val := .agg #[.int .i64 1, .func (.func 70) #[] #[]], born := 1 }, { key := .string ⟨#[108, 114, 99]⟩, val := .agg #[.int .i64 1, .func (.func 71) #[] #[]], born := 2 }, { key := .string ⟨#[120, 111, 114]⟩, val := .agg #[.int .i64 1, .func (.func 72) #[] #[]], born := 3 }, { key := .string ⟨#[102, 108, 101, 116, 99, 104, 101, 114]⟩, val := .agg #[.int .i64 2, .func (.func 73) #[] #[]], born := 4 }, { key := .string ⟨#[99, 114, 99, 56]⟩, val := .agg #[.int .i64 1, .func (.func 88) #[] #[.pointer (some ⟨b1, 0, none⟩)]], born := 5 }, { key := .string ⟨#[99, 114, 99, 49, 54]⟩, val := .agg #[.int .i64 2, .func (.func 88) #[] #[.pointer (some ⟨b2, 0, none⟩)]], born := 6 }, { key := .string ⟨#[99, 99, 105, 116, 116]⟩, val := .agg #[.int .i64 2, .func (.func 88) #[] #[.pointer (some ⟨b3, 0, none⟩)]], born := 7 }, { key := .string ⟨#[99, 114, 99, 51, 50]⟩, val := .agg #[.int .i64 4, .func (.func 88) #[] #[.pointer (some ⟨b4, 0, none⟩)]], born := 8 }]
/-- The table lies in the heap. -/
structure Table (W : World) (m b1 b2 b3 b4 : Nat) : Prop where
  m : W.heap[m]? = some (.map (table b1 b2 b3 b4) 9)
  k1 : W.heap[b1]? = some (.cells (kcells 8 7 0 false 0) 166 (0, 0))
  k2 : W.heap[b2]? = some (.cells (kcells 16 32773 0 true 0) 166 (0, 0))
  k3 : W.heap[b3]? = some (.cells (kcells 16 4129 65535 false 0) 166 (0, 0))
  k4 : W.heap[b4]? = some (.cells (kcells 32 79764919 4294967295 true 4294967295) 166 (0, 0))
theorem Table.step {W w2 : World} {m b1 b2 b3 b4 : Nat} (h : Table W m b1 b2 b3 b4) (hb : Below W.heap.size W w2) : Table w2 m b1 b2 b3 b4 :=
  ⟨blk_below h.m hb, blk_below h.k1 hb, blk_below h.k2 hb, blk_below h.k3 hb, blk_below h.k4 hb⟩
set_option maxRecDepth 100000 in
set_option maxHeartbeats 4000000 in
theorem kinds_calls (w : World) : Calls Try.prog 53 #[] w fun e w' => ∃ m b1 b2 b3 b4, e = .returned (.map (some m)) ∧ w.heap.size ≤ m ∧ Table w' m b1 b2 b3 b4 ∧ Below w.heap.size w w' := by
  have m0 := blk_new w (.map #[] 0)
  have hB0 := below_alloc (Below.refl w.heap.size w) (.map #[] 0)
  have hmk : ∀ w, (Instr.makeMap 129 none).run Try.prog w = .ok (.map (some w.heap.size)) (w.alloc (.map #[] 0)) := fun w => rfl
  go_enter Try.func53, Try.ntmps53
  go_wp2_with (first | ((with_reducible refine gate_key (s := ⟨#[110, 111, 110, 101]⟩) rfl ?_); refine put_event (s := ⟨#[110, 111, 110, 101]⟩) rfl ?hg ?hd (m := w.heap.size) (es := #[]) (es' := #[{ key := .string ⟨#[110, 111, 110, 101]⟩, val := .agg #[.int .i64 0, .func (.func 70) #[] #[]], born := 0 }]) (clock := 0) (val := .agg #[.int .i64 0, .func (.func 70) #[] #[]]) Try.underlying129 Try.underlying9 ?hx ?hv m0 ?hf ?he ?_; (case hg => rfl); (case hd => rfl); (case hx => rfl); (case hv => rfl); (case hf => kernel_rfl); (case he => rfl); intro w1 hw1; have m1 := map_put (es' := #[{ key := .string ⟨#[110, 111, 110, 101]⟩, val := .agg #[.int .i64 0, .func (.func 70) #[] #[]], born := 0 }]) (c' := 1) m0; have hB1 := below_put (es' := #[{ key := .string ⟨#[110, 111, 110, 101]⟩, val := .agg #[.int .i64 0, .func (.func 70) #[] #[]], born := 0 }]) (c' := 1) hB0 (Nat.le_refl _) m0 (Nat.le_refl _); rw [← hw1] at m1 hB1; clear hw1) | ((with_reducible refine gate_key (s := ⟨#[115, 117, 109]⟩) rfl ?_); refine put_event (s := ⟨#[115, 117, 109]⟩) rfl ?hg ?hd (m := w.heap.size) (es := #[{ key := .string ⟨#[110, 111, 110, 101]⟩, val := .agg #[.int .i64 0, .func (.func 70) #[] #[]], born := 0 }]) (es' := #[{ key := .string ⟨#[110, 111, 110, 101]⟩, val := .agg #[.int .i64 0, .func (.func 70) #[] #[]], born := 0 }, { key := .string ⟨#[115, 117, 109]⟩, val := .agg #[.int .i64 1, .func (.func 70) #[] #[]], born := 1 }]) (clock := 1) (val := .agg #[.int .i64 1, .func (.func 70) #[] #[]]) Try.underlying129 Try.underlying9 ?hx ?hv m1 ?hf ?he ?_; (case hg => rfl); (case hd => rfl); (case hx => rfl); (case hv => rfl); (case hf => kernel_rfl); (case he => rfl); intro w2 hw2; have m2 := map_put (es' := #[{ key := .string ⟨#[110, 111, 110, 101]⟩, val := .agg #[.int .i64 0, .func (.func 70) #[] #[]], born := 0 }, { key := .string ⟨#[115, 117, 109]⟩, val := .agg #[.int .i64 1, .func (.func 70) #[] #[]], born := 1 }]) (c' := 2) m1; have hB2 := below_put (es' := #[{ key := .string ⟨#[110, 111, 110, 101]⟩, val := .agg #[.int .i64 0, .func (.func 70) #[] #[]], born := 0 }, { key := .string ⟨#[115, 117, 109]⟩, val := .agg #[.int .i64 1, .func (.func 70) #[] #[]], born := 1 }]) (c' := 2) hB1 (Nat.le_refl _) m1 (Nat.le_refl _); rw [← hw2] at m2 hB2; clear hw2) | ((with_reducible refine gate_key (s := ⟨#[108, 114, 99]⟩) rfl ?_); refine put_event (s := ⟨#[108, 114, 99]⟩) rfl ?hg ?hd (m := w.heap.size) (es := #[{ key := .string ⟨#[110, 111, 110, 101]⟩, val := .agg #[.int .i64 0, .func (.func 70) #[] #[]], born := 0 }, { key := .string ⟨#[115, 117, 109]⟩, val := .agg #[.int .i64 1, .func (.func 70) #[] #[]], born := 1 }]) (es' := #[{ key := .string ⟨#[110, 111, 110, 101]⟩, val := .agg #[.int .i64 0, .func (.func 70) #[] #[]], born := 0 }, { key := .string ⟨#[115, 117, 109]⟩, val := .agg #[.int .i64 1, .func (.func 70) #[] #[]], born := 1 }, { key := .string ⟨#[108, 114, 99]⟩, val := .agg #[.int .i64 1, .func (.func 71) #[] #[]], born := 2 }]) (clock := 2) (val := .agg #[.int .i64 1, .func (.func 71) #[] #[]]) Try.underlying129 Try.underlying9 ?hx ?hv m2 ?hf ?he ?_; (case hg => rfl); (case hd => rfl); (case hx => rfl); (case hv => rfl); (case hf => kernel_rfl); (case he => rfl); intro w3 hw3; have m3 := map_put (es' := #[{ key := .string ⟨#[110, 111, 110, 101]⟩, val := .agg #[.int .i64 0, .func (.func 70) #[] #[]], born := 0 }, { key := .string ⟨#[115, 117, 109]⟩, val := .agg #[.int .i64 1, .func (.func 70) #[] #[]], born := 1 }, { key := .string ⟨#[108, 114, 99]⟩, val := .agg #[.int .i64 1, .func (.func 71) #[] #[]], born := 2 }]) (c' := 3) m2; have hB3 := below_put (es' := #[{ key := .string ⟨#[110, 111, 110, 101]⟩, val := .agg #[.int .i64 0, .func (.func 70) #[] #[]], born := 0 }, { key := .string ⟨#[115, 117, 109]⟩, val := .agg #[.int .i64 1, .func (.func 70) #[] #[]], born := 1 }, { key := .string ⟨#[108, 114, 99]⟩, val := .agg #[.int .i64 1, .func (.func 71) #[] #[]], born := 2 }]) (c' := 3) hB2 (Nat.le_refl _) m2 (Nat.le_refl _); rw [← hw3] at m3 hB3; clear hw3) | ((with_reducible refine gate_key (s := ⟨#[120, 111, 114]⟩) rfl ?_); refine put_event (s := ⟨#[120, 111, 114]⟩) rfl ?hg ?hd (m := w.heap.size) (es := #[{ key := .string ⟨#[110, 111, 110, 101]⟩, val := .agg #[.int .i64 0, .func (.func 70) #[] #[]], born := 0 }, { key := .string ⟨#[115, 117, 109]⟩, val := .agg #[.int .i64 1, .func (.func 70) #[] #[]], born := 1 }, { key := .string ⟨#[108, 114, 99]⟩, val := .agg #[.int .i64 1, .func (.func 71) #[] #[]], born := 2 }]) (es' := #[{ key := .string ⟨#[110, 111, 110, 101]⟩, val := .agg #[.int .i64 0, .func (.func 70) #[] #[]], born := 0 }, { key := .string ⟨#[115, 117, 109]⟩, val := .agg #[.int .i64 1, .func (.func 70) #[] #[]], born := 1 }, { key := .string ⟨#[108, 114, 99]⟩, val := .agg #[.int .i64 1, .func (.func 71) #[] #[]], born := 2 }, { key := .string ⟨#[120, 111, 114]⟩, val := .agg #[.int .i64 1, .func (.func 72) #[] #[]], born := 3 }]) (clock := 3) (val := .agg #[.int .i64 1, .func (.func 72) #[] #[]]) Try.underlying129 Try.underlying9 ?hx ?hv m3 ?hf ?he ?_; (case hg => rfl); (case hd => rfl); (case hx => rfl); (case hv => rfl); (case hf => kernel_rfl); (case he => rfl); intro w4 hw4; have m4 := map_put (es' := #[{ key := .string ⟨#[110, 111, 110, 101]⟩, val := .agg #[.int .i64 0, .func (.func 70) #[] #[]], born := 0 }, { key := .string ⟨#[115, 117, 109]⟩, val := .agg #[.int .i64 1, .func (.func 70) #[] #[]], born := 1 }, { key := .string ⟨#[108, 114, 99]⟩, val := .agg #[.int .i64 1, .func (.func 71) #[] #[]], born := 2 }, { key := .string ⟨#[120, 111, 114]⟩, val := .agg #[.int .i64 1, .func (.func 72) #[] #[]], born := 3 }]) (c' := 4) m3; have hB4 := below_put (es' := #[{ key := .string ⟨#[110, 111, 110, 101]⟩, val := .agg #[.int .i64 0, .func (.func 70) #[] #[]], born := 0 }, { key := .string ⟨#[115, 117, 109]⟩, val := .agg #[.int .i64 1, .func (.func 70) #[] #[]], born := 1 }, { key := .string ⟨#[108, 114, 99]⟩, val := .agg #[.int .i64 1, .func (.func 71) #[] #[]], born := 2 }, { key := .string ⟨#[120, 111, 114]⟩, val := .agg #[.int .i64 1, .func (.func 72) #[] #[]], born := 3 }]) (c' := 4) hB3 (Nat.le_refl _) m3 (Nat.le_refl _); rw [← hw4] at m4 hB4; clear hw4) | ((with_reducible refine gate_key (s := ⟨#[102, 108, 101, 116, 99, 104, 101, 114]⟩) rfl ?_); refine put_event (s := ⟨#[102, 108, 101, 116, 99, 104, 101, 114]⟩) rfl ?hg ?hd (m := w.heap.size) (es := #[{ key := .string ⟨#[110, 111, 110, 101]⟩, val := .agg #[.int .i64 0, .func (.func 70) #[] #[]], born := 0 }, { key := .string ⟨#[115, 117, 109]⟩, val := .agg #[.int .i64 1, .func (.func 70) #[] #[]], born := 1 }, { key := .string ⟨#[108, 114, 99]⟩, val := .agg #[.int .i64 1, .func (.func 71) #[] #[]], born := 2 }, { key := .string ⟨#[120, 111, 114]⟩, val := .agg #[.int .i64 1, .func (.func 72) #[] #[]], born := 3 }]) (es' := #[{ key := .string ⟨#[110, 111, 110, 101]⟩, val := .agg #[.int .i64 0, .func (.func 70) #[] #[]], born := 0 }, { key := .string ⟨#[115, 117, 109]⟩, val := .agg #[.int .i64 1, .func (.func 70) #[] #[]], born := 1 }, { key := .string ⟨#[108, 114, 99]⟩, val := .agg #[.int .i64 1, .func (.func 71) #[] #[]], born := 2 }, { key := .string ⟨#[120, 111, 114]⟩, val := .agg #[.int .i64 1, .func (.func 72) #[] #[]], born := 3 }, { key := .string ⟨#[102, 108, 101, 116, 99, 104, 101, 114]⟩, val := .agg #[.int .i64 2, .func (.func 73) #[] #[]], born := 4 }]) (clock := 4) (val := .agg #[.int .i64 2, .func (.func 73) #[] #[]]) Try.underlying129 Try.underlying9 ?hx ?hv m4 ?hf ?he ?_; (case hg => rfl); (case hd => rfl); (case hx => rfl); (case hv => rfl); (case hf => kernel_rfl); (case he => rfl); intro w5 hw5; have m5 := map_put (es' := #[{ key := .string ⟨#[110, 111, 110, 101]⟩, val := .agg #[.int .i64 0, .func (.func 70) #[] #[]], born := 0 }, { key := .string ⟨#[115, 117, 109]⟩, val := .agg #[.int .i64 1, .func (.func 70) #[] #[]], born := 1 }, { key := .string ⟨#[108, 114, 99]⟩, val := .agg #[.int .i64 1, .func (.func 71) #[] #[]], born := 2 }, { key := .string ⟨#[120, 111, 114]⟩, val := .agg #[.int .i64 1, .func (.func 72) #[] #[]], born := 3 }, { key := .string ⟨#[102, 108, 101, 116, 99, 104, 101, 114]⟩, val := .agg #[.int .i64 2, .func (.func 73) #[] #[]], born := 4 }]) (c' := 5) m4; have hB5 := below_put (es' := #[{ key := .string ⟨#[110, 111, 110, 101]⟩, val := .agg #[.int .i64 0, .func (.func 70) #[] #[]], born := 0 }, { key := .string ⟨#[115, 117, 109]⟩, val := .agg #[.int .i64 1, .func (.func 70) #[] #[]], born := 1 }, { key := .string ⟨#[108, 114, 99]⟩, val := .agg #[.int .i64 1, .func (.func 71) #[] #[]], born := 2 }, { key := .string ⟨#[120, 111, 114]⟩, val := .agg #[.int .i64 1, .func (.func 72) #[] #[]], born := 3 }, { key := .string ⟨#[102, 108, 101, 116, 99, 104, 101, 114]⟩, val := .agg #[.int .i64 2, .func (.func 73) #[] #[]], born := 4 }]) (c' := 5) hB4 (Nat.le_refl _) m4 (Nat.le_refl _); rw [← hw5] at m5 hB5; clear hw5) | fail)
  refine (divided_calls (s := ⟨#[99, 114, 99, 56]⟩) (w := 8) (p := 7) (f := 0) (t := false) (last := 0) (by kernel_rfl) _).mono ?_
  rintro e wd1 ⟨b1, rfl, hbb1, k1, hb_⟩
  replace m5 := blk_below m5 hb_
  replace hB5 := bthen hB5 hb_
  clear hb_ hbb1
  simp only [dv]
  go_wp2_with ((with_reducible refine gate_key (s := ⟨#[99, 114, 99, 56]⟩) rfl ?_); refine put_event (s := ⟨#[99, 114, 99, 56]⟩) rfl ?hg ?hd (m := w.heap.size) (es := #[{ key := .string ⟨#[110, 111, 110, 101]⟩, val := .agg #[.int .i64 0, .func (.func 70) #[] #[]], born := 0 }, { key := .string ⟨#[115, 117, 109]⟩, val := .agg #[.int .i64 1, .func (.func 70) #[] #[]], born := 1 }, { key := .string ⟨#[108, 114, 99]⟩, val := .agg #[.int .i64 1, .func (.func 71) #[] #[]], born := 2 }, { key := .string ⟨#[120, 111, 114]⟩, val := .agg #[.int .i64 1, .func (.func 72) #[] #[]], born := 3 }, { key := .string ⟨#[102, 108, 101, 116, 99, 104, 101, 114]⟩, val := .agg #[.int .i64 2, .func (.func 73) #[] #[]], born := 4 }]) (es' := #[{ key := .string ⟨#[110, 111, 110, 101]⟩, val := .agg #[.int .i64 0, .func (.func 70) #[] #[]], born := 0 }, { key := .string ⟨#[115, 117, 109]⟩, val := .agg #[.int .i64 1, .func (.func 70) #[] #[]], born := 1 }, { key := .string ⟨#[108, 114, 99]⟩, val := .agg #[.int .i64 1, .func (.func 71) #[] #[]], born := 2 }, { key := .string ⟨#[120, 111, 114]⟩, val := .agg #[.int .i64 1, .func (.func 72) #[] #[]], born := 3 }, { key := .string ⟨#[102, 108, 101, 116, 99, 104, 101, 114]⟩, val := .agg #[.int .i64 2, .func (.func 73) #[] #[]], born := 4 }, { key := .string ⟨#[99, 114, 99, 56]⟩, val := .agg #[.int .i64 1, .func (.func 88) #[] #[.pointer (some ⟨b1, 0, none⟩)]], born := 5 }]) (clock := 5) (val := .agg #[.int .i64 1, .func (.func 88) #[] #[.pointer (some ⟨b1, 0, none⟩)]]) Try.underlying129 Try.underlying9 ?hx ?hv m5 ?hf ?he ?_; (case hg => rfl); (case hd => rfl); (case hx => rfl); (case hv => rfl); (case hf => kernel_rfl); (case he => rfl); intro w6 hw6; have m6 := map_put (es' := #[{ key := .string ⟨#[110, 111, 110, 101]⟩, val := .agg #[.int .i64 0, .func (.func 70) #[] #[]], born := 0 }, { key := .string ⟨#[115, 117, 109]⟩, val := .agg #[.int .i64 1, .func (.func 70) #[] #[]], born := 1 }, { key := .string ⟨#[108, 114, 99]⟩, val := .agg #[.int .i64 1, .func (.func 71) #[] #[]], born := 2 }, { key := .string ⟨#[120, 111, 114]⟩, val := .agg #[.int .i64 1, .func (.func 72) #[] #[]], born := 3 }, { key := .string ⟨#[102, 108, 101, 116, 99, 104, 101, 114]⟩, val := .agg #[.int .i64 2, .func (.func 73) #[] #[]], born := 4 }, { key := .string ⟨#[99, 114, 99, 56]⟩, val := .agg #[.int .i64 1, .func (.func 88) #[] #[.pointer (some ⟨b1, 0, none⟩)]], born := 5 }]) (c' := 6) m5; have hB6 := below_put (es' := #[{ key := .string ⟨#[110, 111, 110, 101]⟩, val := .agg #[.int .i64 0, .func (.func 70) #[] #[]], born := 0 }, { key := .string ⟨#[115, 117, 109]⟩, val := .agg #[.int .i64 1, .func (.func 70) #[] #[]], born := 1 }, { key := .string ⟨#[108, 114, 99]⟩, val := .agg #[.int .i64 1, .func (.func 71) #[] #[]], born := 2 }, { key := .string ⟨#[120, 111, 114]⟩, val := .agg #[.int .i64 1, .func (.func 72) #[] #[]], born := 3 }, { key := .string ⟨#[102, 108, 101, 116, 99, 104, 101, 114]⟩, val := .agg #[.int .i64 2, .func (.func 73) #[] #[]], born := 4 }, { key := .string ⟨#[99, 114, 99, 56]⟩, val := .agg #[.int .i64 1, .func (.func 88) #[] #[.pointer (some ⟨b1, 0, none⟩)]], born := 5 }]) (c' := 6) hB5 (Nat.le_refl _) m5 (Nat.le_refl _); rw [← hw6] at m6 hB6; replace k1 := cells_put (es' := #[{ key := .string ⟨#[110, 111, 110, 101]⟩, val := .agg #[.int .i64 0, .func (.func 70) #[] #[]], born := 0 }, { key := .string ⟨#[115, 117, 109]⟩, val := .agg #[.int .i64 1, .func (.func 70) #[] #[]], born := 1 }, { key := .string ⟨#[108, 114, 99]⟩, val := .agg #[.int .i64 1, .func (.func 71) #[] #[]], born := 2 }, { key := .string ⟨#[120, 111, 114]⟩, val := .agg #[.int .i64 1, .func (.func 72) #[] #[]], born := 3 }, { key := .string ⟨#[102, 108, 101, 116, 99, 104, 101, 114]⟩, val := .agg #[.int .i64 2, .func (.func 73) #[] #[]], born := 4 }, { key := .string ⟨#[99, 114, 99, 56]⟩, val := .agg #[.int .i64 1, .func (.func 88) #[] #[.pointer (some ⟨b1, 0, none⟩)]], born := 5 }]) (c' := 6) k1 m5; rw [← hw6] at k1; clear hw6)
  refine (divided_calls (s := ⟨#[99, 114, 99, 49, 54]⟩) (w := 16) (p := 32773) (f := 0) (t := true) (last := 0) (by kernel_rfl) _).mono ?_
  rintro e wd2 ⟨b2, rfl, hbb2, k2, hb_⟩
  replace m6 := blk_below m6 hb_
  replace hB6 := bthen hB6 hb_
  replace k1 := blk_below k1 hb_
  clear hb_ hbb2
  simp only [dv]
  go_wp2_with ((with_reducible refine gate_key (s := ⟨#[99, 114, 99, 49, 54]⟩) rfl ?_); refine put_event (s := ⟨#[99, 114, 99, 49, 54]⟩) rfl ?hg ?hd (m := w.heap.size) (es := #[{ key := .string ⟨#[110, 111, 110, 101]⟩, val := .agg #[.int .i64 0, .func (.func 70) #[] #[]], born := 0 }, { key := .string ⟨#[115, 117, 109]⟩, val := .agg #[.int .i64 1, .func (.func 70) #[] #[]], born := 1 }, { key := .string ⟨#[108, 114, 99]⟩, val := .agg #[.int .i64 1, .func (.func 71) #[] #[]], born := 2 }, { key := .string ⟨#[120, 111, 114]⟩, val := .agg #[.int .i64 1, .func (.func 72) #[] #[]], born := 3 }, { key := .string ⟨#[102, 108, 101, 116, 99, 104, 101, 114]⟩, val := .agg #[.int .i64 2, .func (.func 73) #[] #[]], born := 4 }, { key := .string ⟨#[99, 114, 99, 56]⟩, val := .agg #[.int .i64 1, .func (.func 88) #[] #[.pointer (some ⟨b1, 0, none⟩)]], born := 5 }]) (es' := #[{ key := .string ⟨#[110, 111, 110, 101]⟩, val := .agg #[.int .i64 0, .func (.func 70) #[] #[]], born := 0 }, { key := .string ⟨#[115, 117, 109]⟩, val := .agg #[.int .i64 1, .func (.func 70) #[] #[]], born := 1 }, { key := .string ⟨#[108, 114, 99]⟩, val := .agg #[.int .i64 1, .func (.func 71) #[] #[]], born := 2 }, { key := .string ⟨#[120, 111, 114]⟩, val := .agg #[.int .i64 1, .func (.func 72) #[] #[]], born := 3 }, { key := .string ⟨#[102, 108, 101, 116, 99, 104, 101, 114]⟩, val := .agg #[.int .i64 2, .func (.func 73) #[] #[]], born := 4 }, { key := .string ⟨#[99, 114, 99, 56]⟩, val := .agg #[.int .i64 1, .func (.func 88) #[] #[.pointer (some ⟨b1, 0, none⟩)]], born := 5 }, { key := .string ⟨#[99, 114, 99, 49, 54]⟩, val := .agg #[.int .i64 2, .func (.func 88) #[] #[.pointer (some ⟨b2, 0, none⟩)]], born := 6 }]) (clock := 6) (val := .agg #[.int .i64 2, .func (.func 88) #[] #[.pointer (some ⟨b2, 0, none⟩)]]) Try.underlying129 Try.underlying9 ?hx ?hv m6 ?hf ?he ?_; (case hg => rfl); (case hd => rfl); (case hx => rfl); (case hv => rfl); (case hf => kernel_rfl); (case he => rfl); intro w7 hw7; have m7 := map_put (es' := #[{ key := .string ⟨#[110, 111, 110, 101]⟩, val := .agg #[.int .i64 0, .func (.func 70) #[] #[]], born := 0 }, { key := .string ⟨#[115, 117, 109]⟩, val := .agg #[.int .i64 1, .func (.func 70) #[] #[]], born := 1 }, { key := .string ⟨#[108, 114, 99]⟩, val := .agg #[.int .i64 1, .func (.func 71) #[] #[]], born := 2 }, { key := .string ⟨#[120, 111, 114]⟩, val := .agg #[.int .i64 1, .func (.func 72) #[] #[]], born := 3 }, { key := .string ⟨#[102, 108, 101, 116, 99, 104, 101, 114]⟩, val := .agg #[.int .i64 2, .func (.func 73) #[] #[]], born := 4 }, { key := .string ⟨#[99, 114, 99, 56]⟩, val := .agg #[.int .i64 1, .func (.func 88) #[] #[.pointer (some ⟨b1, 0, none⟩)]], born := 5 }, { key := .string ⟨#[99, 114, 99, 49, 54]⟩, val := .agg #[.int .i64 2, .func (.func 88) #[] #[.pointer (some ⟨b2, 0, none⟩)]], born := 6 }]) (c' := 7) m6; have hB7 := below_put (es' := #[{ key := .string ⟨#[110, 111, 110, 101]⟩, val := .agg #[.int .i64 0, .func (.func 70) #[] #[]], born := 0 }, { key := .string ⟨#[115, 117, 109]⟩, val := .agg #[.int .i64 1, .func (.func 70) #[] #[]], born := 1 }, { key := .string ⟨#[108, 114, 99]⟩, val := .agg #[.int .i64 1, .func (.func 71) #[] #[]], born := 2 }, { key := .string ⟨#[120, 111, 114]⟩, val := .agg #[.int .i64 1, .func (.func 72) #[] #[]], born := 3 }, { key := .string ⟨#[102, 108, 101, 116, 99, 104, 101, 114]⟩, val := .agg #[.int .i64 2, .func (.func 73) #[] #[]], born := 4 }, { key := .string ⟨#[99, 114, 99, 56]⟩, val := .agg #[.int .i64 1, .func (.func 88) #[] #[.pointer (some ⟨b1, 0, none⟩)]], born := 5 }, { key := .string ⟨#[99, 114, 99, 49, 54]⟩, val := .agg #[.int .i64 2, .func (.func 88) #[] #[.pointer (some ⟨b2, 0, none⟩)]], born := 6 }]) (c' := 7) hB6 (Nat.le_refl _) m6 (Nat.le_refl _); rw [← hw7] at m7 hB7; replace k1 := cells_put (es' := #[{ key := .string ⟨#[110, 111, 110, 101]⟩, val := .agg #[.int .i64 0, .func (.func 70) #[] #[]], born := 0 }, { key := .string ⟨#[115, 117, 109]⟩, val := .agg #[.int .i64 1, .func (.func 70) #[] #[]], born := 1 }, { key := .string ⟨#[108, 114, 99]⟩, val := .agg #[.int .i64 1, .func (.func 71) #[] #[]], born := 2 }, { key := .string ⟨#[120, 111, 114]⟩, val := .agg #[.int .i64 1, .func (.func 72) #[] #[]], born := 3 }, { key := .string ⟨#[102, 108, 101, 116, 99, 104, 101, 114]⟩, val := .agg #[.int .i64 2, .func (.func 73) #[] #[]], born := 4 }, { key := .string ⟨#[99, 114, 99, 56]⟩, val := .agg #[.int .i64 1, .func (.func 88) #[] #[.pointer (some ⟨b1, 0, none⟩)]], born := 5 }, { key := .string ⟨#[99, 114, 99, 49, 54]⟩, val := .agg #[.int .i64 2, .func (.func 88) #[] #[.pointer (some ⟨b2, 0, none⟩)]], born := 6 }]) (c' := 7) k1 m6; rw [← hw7] at k1; replace k2 := cells_put (es' := #[{ key := .string ⟨#[110, 111, 110, 101]⟩, val := .agg #[.int .i64 0, .func (.func 70) #[] #[]], born := 0 }, { key := .string ⟨#[115, 117, 109]⟩, val := .agg #[.int .i64 1, .func (.func 70) #[] #[]], born := 1 }, { key := .string ⟨#[108, 114, 99]⟩, val := .agg #[.int .i64 1, .func (.func 71) #[] #[]], born := 2 }, { key := .string ⟨#[120, 111, 114]⟩, val := .agg #[.int .i64 1, .func (.func 72) #[] #[]], born := 3 }, { key := .string ⟨#[102, 108, 101, 116, 99, 104, 101, 114]⟩, val := .agg #[.int .i64 2, .func (.func 73) #[] #[]], born := 4 }, { key := .string ⟨#[99, 114, 99, 56]⟩, val := .agg #[.int .i64 1, .func (.func 88) #[] #[.pointer (some ⟨b1, 0, none⟩)]], born := 5 }, { key := .string ⟨#[99, 114, 99, 49, 54]⟩, val := .agg #[.int .i64 2, .func (.func 88) #[] #[.pointer (some ⟨b2, 0, none⟩)]], born := 6 }]) (c' := 7) k2 m6; rw [← hw7] at k2; clear hw7)
  refine (divided_calls (s := ⟨#[99, 99, 105, 116, 116]⟩) (w := 16) (p := 4129) (f := 65535) (t := false) (last := 0) (by kernel_rfl) _).mono ?_
  rintro e wd3 ⟨b3, rfl, hbb3, k3, hb_⟩
  replace m7 := blk_below m7 hb_
  replace hB7 := bthen hB7 hb_
  replace k1 := blk_below k1 hb_
  replace k2 := blk_below k2 hb_
  clear hb_ hbb3
  simp only [dv]
  go_wp2_with ((with_reducible refine gate_key (s := ⟨#[99, 99, 105, 116, 116]⟩) rfl ?_); refine put_event (s := ⟨#[99, 99, 105, 116, 116]⟩) rfl ?hg ?hd (m := w.heap.size) (es := #[{ key := .string ⟨#[110, 111, 110, 101]⟩, val := .agg #[.int .i64 0, .func (.func 70) #[] #[]], born := 0 }, { key := .string ⟨#[115, 117, 109]⟩, val := .agg #[.int .i64 1, .func (.func 70) #[] #[]], born := 1 }, { key := .string ⟨#[108, 114, 99]⟩, val := .agg #[.int .i64 1, .func (.func 71) #[] #[]], born := 2 }, { key := .string ⟨#[120, 111, 114]⟩, val := .agg #[.int .i64 1, .func (.func 72) #[] #[]], born := 3 }, { key := .string ⟨#[102, 108, 101, 116, 99, 104, 101, 114]⟩, val := .agg #[.int .i64 2, .func (.func 73) #[] #[]], born := 4 }, { key := .string ⟨#[99, 114, 99, 56]⟩, val := .agg #[.int .i64 1, .func (.func 88) #[] #[.pointer (some ⟨b1, 0, none⟩)]], born := 5 }, { key := .string ⟨#[99, 114, 99, 49, 54]⟩, val := .agg #[.int .i64 2, .func (.func 88) #[] #[.pointer (some ⟨b2, 0, none⟩)]], born := 6 }]) (es' := #[{ key := .string ⟨#[110, 111, 110, 101]⟩, val := .agg #[.int .i64 0, .func (.func 70) #[] #[]], born := 0 }, { key := .string ⟨#[115, 117, 109]⟩, val := .agg #[.int .i64 1, .func (.func 70) #[] #[]], born := 1 }, { key := .string ⟨#[108, 114, 99]⟩, val := .agg #[.int .i64 1, .func (.func 71) #[] #[]], born := 2 }, { key := .string ⟨#[120, 111, 114]⟩, val := .agg #[.int .i64 1, .func (.func 72) #[] #[]], born := 3 }, { key := .string ⟨#[102, 108, 101, 116, 99, 104, 101, 114]⟩, val := .agg #[.int .i64 2, .func (.func 73) #[] #[]], born := 4 }, { key := .string ⟨#[99, 114, 99, 56]⟩, val := .agg #[.int .i64 1, .func (.func 88) #[] #[.pointer (some ⟨b1, 0, none⟩)]], born := 5 }, { key := .string ⟨#[99, 114, 99, 49, 54]⟩, val := .agg #[.int .i64 2, .func (.func 88) #[] #[.pointer (some ⟨b2, 0, none⟩)]], born := 6 }, { key := .string ⟨#[99, 99, 105, 116, 116]⟩, val := .agg #[.int .i64 2, .func (.func 88) #[] #[.pointer (some ⟨b3, 0, none⟩)]], born := 7 }]) (clock := 7) (val := .agg #[.int .i64 2, .func (.func 88) #[] #[.pointer (some ⟨b3, 0, none⟩)]]) Try.underlying129 Try.underlying9 ?hx ?hv m7 ?hf ?he ?_; (case hg => rfl); (case hd => rfl); (case hx => rfl); (case hv => rfl); (case hf => kernel_rfl); (case he => rfl); intro w8 hw8; have m8 := map_put (es' := #[{ key := .string ⟨#[110, 111, 110, 101]⟩, val := .agg #[.int .i64 0, .func (.func 70) #[] #[]], born := 0 }, { key := .string ⟨#[115, 117, 109]⟩, val := .agg #[.int .i64 1, .func (.func 70) #[] #[]], born := 1 }, { key := .string ⟨#[108, 114, 99]⟩, val := .agg #[.int .i64 1, .func (.func 71) #[] #[]], born := 2 }, { key := .string ⟨#[120, 111, 114]⟩, val := .agg #[.int .i64 1, .func (.func 72) #[] #[]], born := 3 }, { key := .string ⟨#[102, 108, 101, 116, 99, 104, 101, 114]⟩, val := .agg #[.int .i64 2, .func (.func 73) #[] #[]], born := 4 }, { key := .string ⟨#[99, 114, 99, 56]⟩, val := .agg #[.int .i64 1, .func (.func 88) #[] #[.pointer (some ⟨b1, 0, none⟩)]], born := 5 }, { key := .string ⟨#[99, 114, 99, 49, 54]⟩, val := .agg #[.int .i64 2, .func (.func 88) #[] #[.pointer (some ⟨b2, 0, none⟩)]], born := 6 }, { key := .string ⟨#[99, 99, 105, 116, 116]⟩, val := .agg #[.int .i64 2, .func (.func 88) #[] #[.pointer (some ⟨b3, 0, none⟩)]], born := 7 }]) (c' := 8) m7; have hB8 := below_put (es' := #[{ key := .string ⟨#[110, 111, 110, 101]⟩, val := .agg #[.int .i64 0, .func (.func 70) #[] #[]], born := 0 }, { key := .string ⟨#[115, 117, 109]⟩, val := .agg #[.int .i64 1, .func (.func 70) #[] #[]], born := 1 }, { key := .string ⟨#[108, 114, 99]⟩, val := .agg #[.int .i64 1, .func (.func 71) #[] #[]], born := 2 }, { key := .string ⟨#[120, 111, 114]⟩, val := .agg #[.int .i64 1, .func (.func 72) #[] #[]], born := 3 }, { key := .string ⟨#[102, 108, 101, 116, 99, 104, 101, 114]⟩, val := .agg #[.int .i64 2, .func (.func 73) #[] #[]], born := 4 }, { key := .string ⟨#[99, 114, 99, 56]⟩, val := .agg #[.int .i64 1, .func (.func 88) #[] #[.pointer (some ⟨b1, 0, none⟩)]], born := 5 }, { key := .string ⟨#[99, 114, 99, 49, 54]⟩, val := .agg #[.int .i64 2, .func (.func 88) #[] #[.pointer (some ⟨b2, 0, none⟩)]], born := 6 }, { key := .string ⟨#[99, 99, 105, 116, 116]⟩, val := .agg #[.int .i64 2, .func (.func 88) #[] #[.pointer (some ⟨b3, 0, none⟩)]], born := 7 }]) (c' := 8) hB7 (Nat.le_refl _) m7 (Nat.le_refl _); rw [← hw8] at m8 hB8; replace k1 := cells_put (es' := #[{ key := .string ⟨#[110, 111, 110, 101]⟩, val := .agg #[.int .i64 0, .func (.func 70) #[] #[]], born := 0 }, { key := .string ⟨#[115, 117, 109]⟩, val := .agg #[.int .i64 1, .func (.func 70) #[] #[]], born := 1 }, { key := .string ⟨#[108, 114, 99]⟩, val := .agg #[.int .i64 1, .func (.func 71) #[] #[]], born := 2 }, { key := .string ⟨#[120, 111, 114]⟩, val := .agg #[.int .i64 1, .func (.func 72) #[] #[]], born := 3 }, { key := .string ⟨#[102, 108, 101, 116, 99, 104, 101, 114]⟩, val := .agg #[.int .i64 2, .func (.func 73) #[] #[]], born := 4 }, { key := .string ⟨#[99, 114, 99, 56]⟩, val := .agg #[.int .i64 1, .func (.func 88) #[] #[.pointer (some ⟨b1, 0, none⟩)]], born := 5 }, { key := .string ⟨#[99, 114, 99, 49, 54]⟩, val := .agg #[.int .i64 2, .func (.func 88) #[] #[.pointer (some ⟨b2, 0, none⟩)]], born := 6 }, { key := .string ⟨#[99, 99, 105, 116, 116]⟩, val := .agg #[.int .i64 2, .func (.func 88) #[] #[.pointer (some ⟨b3, 0, none⟩)]], born := 7 }]) (c' := 8) k1 m7; rw [← hw8] at k1; replace k2 := cells_put (es' := #[{ key := .string ⟨#[110, 111, 110, 101]⟩, val := .agg #[.int .i64 0, .func (.func 70) #[] #[]], born := 0 }, { key := .string ⟨#[115, 117, 109]⟩, val := .agg #[.int .i64 1, .func (.func 70) #[] #[]], born := 1 }, { key := .string ⟨#[108, 114, 99]⟩, val := .agg #[.int .i64 1, .func (.func 71) #[] #[]], born := 2 }, { key := .string ⟨#[120, 111, 114]⟩, val := .agg #[.int .i64 1, .func (.func 72) #[] #[]], born := 3 }, { key := .string ⟨#[102, 108, 101, 116, 99, 104, 101, 114]⟩, val := .agg #[.int .i64 2, .func (.func 73) #[] #[]], born := 4 }, { key := .string ⟨#[99, 114, 99, 56]⟩, val := .agg #[.int .i64 1, .func (.func 88) #[] #[.pointer (some ⟨b1, 0, none⟩)]], born := 5 }, { key := .string ⟨#[99, 114, 99, 49, 54]⟩, val := .agg #[.int .i64 2, .func (.func 88) #[] #[.pointer (some ⟨b2, 0, none⟩)]], born := 6 }, { key := .string ⟨#[99, 99, 105, 116, 116]⟩, val := .agg #[.int .i64 2, .func (.func 88) #[] #[.pointer (some ⟨b3, 0, none⟩)]], born := 7 }]) (c' := 8) k2 m7; rw [← hw8] at k2; replace k3 := cells_put (es' := #[{ key := .string ⟨#[110, 111, 110, 101]⟩, val := .agg #[.int .i64 0, .func (.func 70) #[] #[]], born := 0 }, { key := .string ⟨#[115, 117, 109]⟩, val := .agg #[.int .i64 1, .func (.func 70) #[] #[]], born := 1 }, { key := .string ⟨#[108, 114, 99]⟩, val := .agg #[.int .i64 1, .func (.func 71) #[] #[]], born := 2 }, { key := .string ⟨#[120, 111, 114]⟩, val := .agg #[.int .i64 1, .func (.func 72) #[] #[]], born := 3 }, { key := .string ⟨#[102, 108, 101, 116, 99, 104, 101, 114]⟩, val := .agg #[.int .i64 2, .func (.func 73) #[] #[]], born := 4 }, { key := .string ⟨#[99, 114, 99, 56]⟩, val := .agg #[.int .i64 1, .func (.func 88) #[] #[.pointer (some ⟨b1, 0, none⟩)]], born := 5 }, { key := .string ⟨#[99, 114, 99, 49, 54]⟩, val := .agg #[.int .i64 2, .func (.func 88) #[] #[.pointer (some ⟨b2, 0, none⟩)]], born := 6 }, { key := .string ⟨#[99, 99, 105, 116, 116]⟩, val := .agg #[.int .i64 2, .func (.func 88) #[] #[.pointer (some ⟨b3, 0, none⟩)]], born := 7 }]) (c' := 8) k3 m7; rw [← hw8] at k3; clear hw8)
  refine (divided_calls (s := ⟨#[99, 114, 99, 51, 50]⟩) (w := 32) (p := 79764919) (f := 4294967295) (t := true) (last := 4294967295) (by kernel_rfl) _).mono ?_
  rintro e wd4 ⟨b4, rfl, hbb4, k4, hb_⟩
  replace m8 := blk_below m8 hb_
  replace hB8 := bthen hB8 hb_
  replace k1 := blk_below k1 hb_
  replace k2 := blk_below k2 hb_
  replace k3 := blk_below k3 hb_
  clear hb_ hbb4
  simp only [dv]
  go_wp2_with ((with_reducible refine gate_key (s := ⟨#[99, 114, 99, 51, 50]⟩) rfl ?_); refine put_event (s := ⟨#[99, 114, 99, 51, 50]⟩) rfl ?hg ?hd (m := w.heap.size) (es := #[{ key := .string ⟨#[110, 111, 110, 101]⟩, val := .agg #[.int .i64 0, .func (.func 70) #[] #[]], born := 0 }, { key := .string ⟨#[115, 117, 109]⟩, val := .agg #[.int .i64 1, .func (.func 70) #[] #[]], born := 1 }, { key := .string ⟨#[108, 114, 99]⟩, val := .agg #[.int .i64 1, .func (.func 71) #[] #[]], born := 2 }, { key := .string ⟨#[120, 111, 114]⟩, val := .agg #[.int .i64 1, .func (.func 72) #[] #[]], born := 3 }, { key := .string ⟨#[102, 108, 101, 116, 99, 104, 101, 114]⟩, val := .agg #[.int .i64 2, .func (.func 73) #[] #[]], born := 4 }, { key := .string ⟨#[99, 114, 99, 56]⟩, val := .agg #[.int .i64 1, .func (.func 88) #[] #[.pointer (some ⟨b1, 0, none⟩)]], born := 5 }, { key := .string ⟨#[99, 114, 99, 49, 54]⟩, val := .agg #[.int .i64 2, .func (.func 88) #[] #[.pointer (some ⟨b2, 0, none⟩)]], born := 6 }, { key := .string ⟨#[99, 99, 105, 116, 116]⟩, val := .agg #[.int .i64 2, .func (.func 88) #[] #[.pointer (some ⟨b3, 0, none⟩)]], born := 7 }]) (es' := #[{ key := .string ⟨#[110, 111, 110, 101]⟩, val := .agg #[.int .i64 0, .func (.func 70) #[] #[]], born := 0 }, { key := .string ⟨#[115, 117, 109]⟩, val := .agg #[.int .i64 1, .func (.func 70) #[] #[]], born := 1 }, { key := .string ⟨#[108, 114, 99]⟩, val := .agg #[.int .i64 1, .func (.func 71) #[] #[]], born := 2 }, { key := .string ⟨#[120, 111, 114]⟩, val := .agg #[.int .i64 1, .func (.func 72) #[] #[]], born := 3 }, { key := .string ⟨#[102, 108, 101, 116, 99, 104, 101, 114]⟩, val := .agg #[.int .i64 2, .func (.func 73) #[] #[]], born := 4 }, { key := .string ⟨#[99, 114, 99, 56]⟩, val := .agg #[.int .i64 1, .func (.func 88) #[] #[.pointer (some ⟨b1, 0, none⟩)]], born := 5 }, { key := .string ⟨#[99, 114, 99, 49, 54]⟩, val := .agg #[.int .i64 2, .func (.func 88) #[] #[.pointer (some ⟨b2, 0, none⟩)]], born := 6 }, { key := .string ⟨#[99, 99, 105, 116, 116]⟩, val := .agg #[.int .i64 2, .func (.func 88) #[] #[.pointer (some ⟨b3, 0, none⟩)]], born := 7 }, { key := .string ⟨#[99, 114, 99, 51, 50]⟩, val := .agg #[.int .i64 4, .func (.func 88) #[] #[.pointer (some ⟨b4, 0, none⟩)]], born := 8 }]) (clock := 8) (val := .agg #[.int .i64 4, .func (.func 88) #[] #[.pointer (some ⟨b4, 0, none⟩)]]) Try.underlying129 Try.underlying9 ?hx ?hv m8 ?hf ?he ?_; (case hg => rfl); (case hd => rfl); (case hx => rfl); (case hv => rfl); (case hf => kernel_rfl); (case he => rfl); intro w9 hw9; have m9 := map_put (es' := #[{ key := .string ⟨#[110, 111, 110, 101]⟩, val := .agg #[.int .i64 0, .func (.func 70) #[] #[]], born := 0 }, { key := .string ⟨#[115, 117, 109]⟩, val := .agg #[.int .i64 1, .func (.func 70) #[] #[]], born := 1 }, { key := .string ⟨#[108, 114, 99]⟩, val := .agg #[.int .i64 1, .func (.func 71) #[] #[]], born := 2 }, { key := .string ⟨#[120, 111, 114]⟩, val := .agg #[.int .i64 1, .func (.func 72) #[] #[]], born := 3 }, { key := .string ⟨#[102, 108, 101, 116, 99, 104, 101, 114]⟩, val := .agg #[.int .i64 2, .func (.func 73) #[] #[]], born := 4 }, { key := .string ⟨#[99, 114, 99, 56]⟩, val := .agg #[.int .i64 1, .func (.func 88) #[] #[.pointer (some ⟨b1, 0, none⟩)]], born := 5 }, { key := .string ⟨#[99, 114, 99, 49, 54]⟩, val := .agg #[.int .i64 2, .func (.func 88) #[] #[.pointer (some ⟨b2, 0, none⟩)]], born := 6 }, { key := .string ⟨#[99, 99, 105, 116, 116]⟩, val := .agg #[.int .i64 2, .func (.func 88) #[] #[.pointer (some ⟨b3, 0, none⟩)]], born := 7 }, { key := .string ⟨#[99, 114, 99, 51, 50]⟩, val := .agg #[.int .i64 4, .func (.func 88) #[] #[.pointer (some ⟨b4, 0, none⟩)]], born := 8 }]) (c' := 9) m8; have hB9 := below_put (es' := #[{ key := .string ⟨#[110, 111, 110, 101]⟩, val := .agg #[.int .i64 0, .func (.func 70) #[] #[]], born := 0 }, { key := .string ⟨#[115, 117, 109]⟩, val := .agg #[.int .i64 1, .func (.func 70) #[] #[]], born := 1 }, { key := .string ⟨#[108, 114, 99]⟩, val := .agg #[.int .i64 1, .func (.func 71) #[] #[]], born := 2 }, { key := .string ⟨#[120, 111, 114]⟩, val := .agg #[.int .i64 1, .func (.func 72) #[] #[]], born := 3 }, { key := .string ⟨#[102, 108, 101, 116, 99, 104, 101, 114]⟩, val := .agg #[.int .i64 2, .func (.func 73) #[] #[]], born := 4 }, { key := .string ⟨#[99, 114, 99, 56]⟩, val := .agg #[.int .i64 1, .func (.func 88) #[] #[.pointer (some ⟨b1, 0, none⟩)]], born := 5 }, { key := .string ⟨#[99, 114, 99, 49, 54]⟩, val := .agg #[.int .i64 2, .func (.func 88) #[] #[.pointer (some ⟨b2, 0, none⟩)]], born := 6 }, { key := .string ⟨#[99, 99, 105, 116, 116]⟩, val := .agg #[.int .i64 2, .func (.func 88) #[] #[.pointer (some ⟨b3, 0, none⟩)]], born := 7 }, { key := .string ⟨#[99, 114, 99, 51, 50]⟩, val := .agg #[.int .i64 4, .func (.func 88) #[] #[.pointer (some ⟨b4, 0, none⟩)]], born := 8 }]) (c' := 9) hB8 (Nat.le_refl _) m8 (Nat.le_refl _); rw [← hw9] at m9 hB9; replace k1 := cells_put (es' := #[{ key := .string ⟨#[110, 111, 110, 101]⟩, val := .agg #[.int .i64 0, .func (.func 70) #[] #[]], born := 0 }, { key := .string ⟨#[115, 117, 109]⟩, val := .agg #[.int .i64 1, .func (.func 70) #[] #[]], born := 1 }, { key := .string ⟨#[108, 114, 99]⟩, val := .agg #[.int .i64 1, .func (.func 71) #[] #[]], born := 2 }, { key := .string ⟨#[120, 111, 114]⟩, val := .agg #[.int .i64 1, .func (.func 72) #[] #[]], born := 3 }, { key := .string ⟨#[102, 108, 101, 116, 99, 104, 101, 114]⟩, val := .agg #[.int .i64 2, .func (.func 73) #[] #[]], born := 4 }, { key := .string ⟨#[99, 114, 99, 56]⟩, val := .agg #[.int .i64 1, .func (.func 88) #[] #[.pointer (some ⟨b1, 0, none⟩)]], born := 5 }, { key := .string ⟨#[99, 114, 99, 49, 54]⟩, val := .agg #[.int .i64 2, .func (.func 88) #[] #[.pointer (some ⟨b2, 0, none⟩)]], born := 6 }, { key := .string ⟨#[99, 99, 105, 116, 116]⟩, val := .agg #[.int .i64 2, .func (.func 88) #[] #[.pointer (some ⟨b3, 0, none⟩)]], born := 7 }, { key := .string ⟨#[99, 114, 99, 51, 50]⟩, val := .agg #[.int .i64 4, .func (.func 88) #[] #[.pointer (some ⟨b4, 0, none⟩)]], born := 8 }]) (c' := 9) k1 m8; rw [← hw9] at k1; replace k2 := cells_put (es' := #[{ key := .string ⟨#[110, 111, 110, 101]⟩, val := .agg #[.int .i64 0, .func (.func 70) #[] #[]], born := 0 }, { key := .string ⟨#[115, 117, 109]⟩, val := .agg #[.int .i64 1, .func (.func 70) #[] #[]], born := 1 }, { key := .string ⟨#[108, 114, 99]⟩, val := .agg #[.int .i64 1, .func (.func 71) #[] #[]], born := 2 }, { key := .string ⟨#[120, 111, 114]⟩, val := .agg #[.int .i64 1, .func (.func 72) #[] #[]], born := 3 }, { key := .string ⟨#[102, 108, 101, 116, 99, 104, 101, 114]⟩, val := .agg #[.int .i64 2, .func (.func 73) #[] #[]], born := 4 }, { key := .string ⟨#[99, 114, 99, 56]⟩, val := .agg #[.int .i64 1, .func (.func 88) #[] #[.pointer (some ⟨b1, 0, none⟩)]], born := 5 }, { key := .string ⟨#[99, 114, 99, 49, 54]⟩, val := .agg #[.int .i64 2, .func (.func 88) #[] #[.pointer (some ⟨b2, 0, none⟩)]], born := 6 }, { key := .string ⟨#[99, 99, 105, 116, 116]⟩, val := .agg #[.int .i64 2, .func (.func 88) #[] #[.pointer (some ⟨b3, 0, none⟩)]], born := 7 }, { key := .string ⟨#[99, 114, 99, 51, 50]⟩, val := .agg #[.int .i64 4, .func (.func 88) #[] #[.pointer (some ⟨b4, 0, none⟩)]], born := 8 }]) (c' := 9) k2 m8; rw [← hw9] at k2; replace k3 := cells_put (es' := #[{ key := .string ⟨#[110, 111, 110, 101]⟩, val := .agg #[.int .i64 0, .func (.func 70) #[] #[]], born := 0 }, { key := .string ⟨#[115, 117, 109]⟩, val := .agg #[.int .i64 1, .func (.func 70) #[] #[]], born := 1 }, { key := .string ⟨#[108, 114, 99]⟩, val := .agg #[.int .i64 1, .func (.func 71) #[] #[]], born := 2 }, { key := .string ⟨#[120, 111, 114]⟩, val := .agg #[.int .i64 1, .func (.func 72) #[] #[]], born := 3 }, { key := .string ⟨#[102, 108, 101, 116, 99, 104, 101, 114]⟩, val := .agg #[.int .i64 2, .func (.func 73) #[] #[]], born := 4 }, { key := .string ⟨#[99, 114, 99, 56]⟩, val := .agg #[.int .i64 1, .func (.func 88) #[] #[.pointer (some ⟨b1, 0, none⟩)]], born := 5 }, { key := .string ⟨#[99, 114, 99, 49, 54]⟩, val := .agg #[.int .i64 2, .func (.func 88) #[] #[.pointer (some ⟨b2, 0, none⟩)]], born := 6 }, { key := .string ⟨#[99, 99, 105, 116, 116]⟩, val := .agg #[.int .i64 2, .func (.func 88) #[] #[.pointer (some ⟨b3, 0, none⟩)]], born := 7 }, { key := .string ⟨#[99, 114, 99, 51, 50]⟩, val := .agg #[.int .i64 4, .func (.func 88) #[] #[.pointer (some ⟨b4, 0, none⟩)]], born := 8 }]) (c' := 9) k3 m8; rw [← hw9] at k3; replace k4 := cells_put (es' := #[{ key := .string ⟨#[110, 111, 110, 101]⟩, val := .agg #[.int .i64 0, .func (.func 70) #[] #[]], born := 0 }, { key := .string ⟨#[115, 117, 109]⟩, val := .agg #[.int .i64 1, .func (.func 70) #[] #[]], born := 1 }, { key := .string ⟨#[108, 114, 99]⟩, val := .agg #[.int .i64 1, .func (.func 71) #[] #[]], born := 2 }, { key := .string ⟨#[120, 111, 114]⟩, val := .agg #[.int .i64 1, .func (.func 72) #[] #[]], born := 3 }, { key := .string ⟨#[102, 108, 101, 116, 99, 104, 101, 114]⟩, val := .agg #[.int .i64 2, .func (.func 73) #[] #[]], born := 4 }, { key := .string ⟨#[99, 114, 99, 56]⟩, val := .agg #[.int .i64 1, .func (.func 88) #[] #[.pointer (some ⟨b1, 0, none⟩)]], born := 5 }, { key := .string ⟨#[99, 114, 99, 49, 54]⟩, val := .agg #[.int .i64 2, .func (.func 88) #[] #[.pointer (some ⟨b2, 0, none⟩)]], born := 6 }, { key := .string ⟨#[99, 99, 105, 116, 116]⟩, val := .agg #[.int .i64 2, .func (.func 88) #[] #[.pointer (some ⟨b3, 0, none⟩)]], born := 7 }, { key := .string ⟨#[99, 114, 99, 51, 50]⟩, val := .agg #[.int .i64 4, .func (.func 88) #[] #[.pointer (some ⟨b4, 0, none⟩)]], born := 8 }]) (c' := 9) k4 m8; rw [← hw9] at k4; clear hw9)
  go_ret
  exact ⟨w.heap.size, b1, b2, b3, b4, rfl, Nat.le_refl _, ⟨m9, k1, k2, k3, k4⟩, hB9⟩
end Go.Proofs.Ytmnohhmnkmnikaa.Sums

/- What bytes end with (sums.Of, Size), walked. -/
set_option linter.unusedVariables false
set_option linter.unusedSimpArgs false
namespace Go.Proofs.Ytmnohhmnkmnikaa.Sums
open Go.RowKit Go.Proofs.YtmnohhmnkmnikaaW.PrintWords Go.Proofs.YtmnohhmnkmnikaaW.PrintLast Go.Proofs.Ytmnohhmnkmnikaa.Nats Go.Proofs.Ytmnohhmnkmnikaa.HeapKit Go.Proofs.Ytmnohhmnkmnikaa.CrcCalls

/-- A number's bytes, the highest first. -/
def endB (n v : Nat) : List Nat := (List.range n).map fun i => v / 256 ^ (n - 1 - i) % 256
theorem endB_length (n v : Nat) : (endB n v).length = n := by simp [endB]
theorem endB_take {n v k i : Nat} (h : i + 1 + k = n) : (endB n v).take (k + 1) = (endB n v).take k ++ [v / 256 ^ i % 256] := by
  rw [List.take_add_one]
  congr 1
  unfold endB
  rw [List.getElem?_map, List.getElem?_range (by omega)]
  simp only [Option.map_some, Option.toList_some]
  congr 4
  omega
theorem run_store_func {P : Program} {w : World} {a : Addr} {m : Mode} (f : Fn) (first cap : Array Value) : (store a (.func f first cap) m).run P w = stored P w a (.func f first cap) m := run_store P w a _ m rfl
theorem run_store_nilFunc {P : Program} {w : World} {a : Addr} {m : Mode} : (store a .nilFunc m).run P w = stored P w a .nilFunc m := run_store P w a _ m rfl
attribute [local go_sem] run_store_func run_store_nilFunc
theorem info_u8 : (Try.prog.info? 5).map (fun i => (i.zero, i.size, i.bytes)) = some (some (.int .u8 0), 1, 1) := by kernel_rfl

set_option maxRecDepth 100000 in
set_option maxHeartbeats 1000000 in
theorem dsum1 {l : List Nat} (hl : ∀ x ∈ l, x < 256) {A : Option Addr} {n c : Nat} (hn : l.length = n) (hm : n < 9223372036854775807) (hc : n ≤ c) (b : Nat) (W : World) (hk : W.heap[b]? = some (.cells (kcells 16 32773 0 true 0) 166 (0, 0))) (hC : Kd.C (Kd.int .u8) W A n (ints l)) :
    Calls Try.prog 88 #[.slice A n c, .pointer (some ⟨b, 0, none⟩)] W fun e w' => e = .returned (.int .u32 ((CrcPlain.sum 16 32773 0 true 0 l : Nat) : Int)) ∧ Below W.heap.size W w' := by
  have hs := sum16 32773 0 0 true l (by decide) (by decide) (by decide) hl (by omega) A n c W hn hc hC
  have HS := Lib.hid hs
  clear hs
  have k0 : W.cell? ⟨b, 0, none⟩ = some (.int .i64 16) := blk_cell hk 0
  have k1 : W.cell? ⟨b, 1, none⟩ = some (.int .u32 32773) := blk_cell hk 1
  have k2 : W.cell? ⟨b, 2, none⟩ = some (.int .u32 0) := blk_cell hk 2
  have k3 : W.cell? ⟨b, 3, none⟩ = some (.bool true) := blk_cell hk 3
  have k4 : W.cell? ⟨b, 4, none⟩ = some (.int .u32 0) := blk_cell hk 4
  go_enter Try.func88, Try.ntmps88
  go_wp2_with fail
  refine HS.out.mono ?_
  rintro e w1 ⟨rfl, hb⟩
  go_wp2_with fail
  go_ret
  exact ⟨rfl, hb⟩

/-- The loop that lays the bytes. -/
def RelO (w : World) (N v : Nat) (s9 s10 : Value) (wr : World) : Prop := ∃ j k : Nat, j + k = N ∧ s10 = .int .i64 ((j : Int) - 1) ∧ Kd.R (Kd.int .u8) 5 wr w.heap.size (fun _ => True) s9 (ints ((endB N v).take k)) ∧ Below w.heap.size w wr
theorem byte_pow (v i : Nat) : ((v : Nat) : Int) / 2 ^ (8 * i) % 256 = ((v / 256 ^ i % 256 : Nat) : Int) := by
  rw [show ((256 : Nat) ^ i) = 2 ^ (8 * i) from by rw [show (256 : Nat) = 2 ^ 8 from rfl, ← Nat.pow_mul]]
  simp
set_option maxRecDepth 100000 in
set_option maxHeartbeats 2000000 in
theorem of6 {l : List Nat} (hl : ∀ x ∈ l, x < 256) {A : Option Addr} {n c : Nat} (hn : l.length = n) (hm : n < 9223372036854775807) (hc : n ≤ c) (w : World) (hC : Kd.C (Kd.int .u8) w A n (ints l)) :
    Calls Try.prog 80 #[.string ⟨#[99, 114, 99, 49, 54]⟩, .slice A n c] w fun e w' => ∃ v, e = .returned (.tuple #[v, .int .i64 0]) ∧ Kd.R (Kd.int .u8) 5 w' w.heap.size (fun _ => True) v (ints (endB 2 (CrcPlain.sum 16 32773 0 true 0 l))) ∧ Below w.heap.size w w' := by
  have hinfo := info_u8
  go_enter Try.func80, Try.ntmps80
  go_wp2_with fail
  refine (kinds_calls _).mono ?_
  rintro e w1 ⟨m, b1, b2, b3, b4, rfl, hm1, hT, hB⟩
  have hlk := (run_look (P := Try.prog) (t := 129) (s := ⟨#[99, 114, 99, 49, 54]⟩) Try.underlying129 Try.underlying9 hT.m).1 6 (.agg #[.int .i64 2, .func (.func 88) #[] #[.pointer (some ⟨b2, 0, none⟩)]]) (by kernel_rfl)
  have kx := blk_new w1 (.cells #[.int .i64 2, .func (.func 88) #[] #[.pointer (some ⟨b2, 0, none⟩)]] 127)
  have hb1 := below_alloc (Below.refl w1.heap.size w1) (.cells #[.int .i64 2, .func (.func 88) #[] #[.pointer (some ⟨b2, 0, none⟩)]] 127)
  have hT2 := hT.step hb1
  have hC2 := Kd.C_below (Kd.C_below hC hB) hb1
  replace hB := bthen hB hb1
  have x0 : (w1.alloc (.cells #[.int .i64 2, .func (.func 88) #[] #[.pointer (some ⟨b2, 0, none⟩)]] 127)).cell? ⟨w1.heap.size, 0, none⟩ = some (.int .i64 2) := blk_cell kx 0
  have x1 : (w1.alloc (.cells #[.int .i64 2, .func (.func 88) #[] #[.pointer (some ⟨b2, 0, none⟩)]] 127)).cell? ⟨w1.heap.size, 1, none⟩ = some (.func (.func 88) #[] #[.pointer (some ⟨b2, 0, none⟩)]) := blk_cell kx 1
  have hcall := dsum1 hl hn hm hc b2 _ hT2.k2 hC2
  have HCALL := Lib.hid hcall
  clear hcall
  go_wp2_with fail
  refine HCALL.out.mono ?_
  rintro e w2 ⟨rfl, hb2⟩
  obtain ⟨v, hv⟩ : ∃ v, CrcPlain.sum 16 32773 0 true 0 l = v := ⟨_, rfl⟩
  rw [hv]
  have HV := Lib.hid hv
  have y0 : w2.cell? ⟨w1.heap.size, 0, none⟩ = some (.int .i64 2) := blk_cell (blk_below kx hb2) 0
  replace hB := bthen hB hb2
  clear hb2 x0 x1 kx hT hT2 hC2 hb1 hlk HCALL hv
  go_wp2_with fail
  clear y0
  go_loopw [9, 10] (RelO w 2 v) (fun _ i _ => (intOf i + 1).toNat)
  case atStart => exact ⟨2, 0, rfl, rfl, Kd.R_nil _ _ _ _ _, hB⟩
  case round =>
    obtain ⟨j, k, hjk, rfl, hR, hBr⟩ := hrel
    rename_i s9 _
    have HJ := Lib.hid hjk
    clear hjk
    cases j with
    | zero =>
      have hk : k = 2 := by have := HJ.out; omega
      subst hk
      rw [List.take_of_length_le (by rw [endB_length]; exact Nat.le_refl _)] at hR
      go_wp2_with fail
      go_ret2
      rw [HV.out]
      exact ⟨_, rfl, hR, hBr⟩
    | succ i =>
      have hi : i ≤ 3 := by have := HJ.out; omega
      rw [show ((i + 1 : Nat) : Int) - 1 = (i : Int) from by omega]
      have e8 : wrap64 (8 * (i : Int)) = ((8 * i : Nat) : Int) := by unfold wrap64; omega
      have eb := byte_pow v i
      have EB := Lib.hid eb
      clear eb
      have et := endB_take (v := v) (n := 2) (k := k) (i := i) (by have := HJ.out; omega)
      have ET := Lib.hid et
      clear et
      have g0 : decide ((i : Int) ≥ 0) = true := by simp
      have g1 : decide (((8 * i : Nat) : Int) < 0) = false := by simp; omega
      have em : IntKind.i64.wrap ((i : Int) - 1) = (i : Int) - 1 := by rw [i64_w]; unfold wrap64; omega
      go_wp2_with (first | ((with_reducible refine gate_dst (N := 37) rfl ?_); refine Kd.R_append (Kd.int .u8) _ rfl (.tmp 30) (.tmp 36) 22 5 (.int .u8 0) 1 rfl Try.underlying22 hinfo rfl (by decide) (by decide) _ _ ((v : Int) / 2 ^ (8 * i) % 256) [.int .u8 ((v : Int) / 2 ^ (8 * i) % 256)] (fun _ => True) (fun _ => False) rfl rfl ?aM (fun _ h => h.elim) (fun _ _ => trivial) hR hBr hBr.size ?aZ ?_; (case aM => exact rfl); (case aZ => rw [ints_length, List.length_take, endB_length]; have := HJ.out; omega); intro v6 w6 hR6 hb6 hg6 hn6) | fail)
      refine ⟨⟨i, k + 1, by have := HJ.out; omega, rfl, ?_, hb6⟩, ?_⟩
      · rw [ET.out]
        rw [EB.out] at hR6
        simpa [ints] using hR6
      · simp [intOf] <;> omega

end Go.Proofs.Ytmnohhmnkmnikaa.Sums

/- What the laws of layer 5 share: the document's example. -/
set_option linter.unusedVariables false
set_option linter.unusedSimpArgs false
namespace Go.Proofs.Ytmnohhmnkmnikaa.Sums
open Go.RowKit Go.Proofs.YtmnohhmnkmnikaaW.PrintWords Go.Proofs.YtmnohhmnkmnikaaW.PrintLast Go.Proofs.Ytmnohhmnkmnikaa.Nats Go.Proofs.Ytmnohhmnkmnikaa.HeapKit Go.Proofs.Ytmnohhmnkmnikaa.CrcCalls

/-- An owned row of bytes: where it lies, and what its cells are. -/
theorem list_form {w : World} {base : Nat} {ok : Nat → Prop} {v : Value} {l : List Nat} (h : Kd.R (Kd.int .u8) 5 w base ok v (ints l)) (hn : 0 < l.length) :
    ∃ g c, v = .slice (some ⟨g, 0, none⟩) l.length c ∧ l.length ≤ c ∧ base ≤ g ∧ Kd.C (Kd.int .u8) w (some ⟨g, 0, none⟩) l.length (ints l) ∧ ∀ i, i < l.length → w.cell? ⟨g, i, none⟩ = some (.int .u8 (l.getD i 0 : Nat)) := by
  obtain ⟨g, c, rfl, hg, _, _⟩ := Kd.R_form h (by rw [ints_length]; exact hn)
  have e := ints_length l
  rw [e] at h ⊢
  obtain ⟨_, h2, h3⟩ := Kd.R_reads' h
  rw [e] at h3
  refine ⟨g, c, rfl, h2, hg, h3, fun i hi => ?_⟩
  have hc := (Kd.R_celln 0 h (i : Int) (by omega) (by omega)).1
  rw [show ((i : Int)).toNat = i from rfl] at hc
  rw [hc]
  congr 2
  simp [rdOf, ints, List.getD_eq_getElem?_getD, hi]
end Go.Proofs.Ytmnohhmnkmnikaa.Sums


