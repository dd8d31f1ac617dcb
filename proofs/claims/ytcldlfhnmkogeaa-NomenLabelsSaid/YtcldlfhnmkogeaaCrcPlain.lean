/- Sums by dividing, over natural numbers and lists of bits: the bits of a number, turning, one doubling, one byte, the sum; sums are linear; texts unlike in one byte have unlike sums (of odd polynomials). No program in sight. -/
namespace Go.Proofs.Ytcldlfhnmkogeaa.CrcPlain

theorem snocInd {α : Type} {P : List α → Prop} (h0 : P []) (hs : ∀ l b, P l → P (l ++ [b])) (l : List α) : P l := by
  have h : ∀ m : List α, P m.reverse := by
    intro m
    induction m with
    | nil => simpa using h0
    | cons a m ih => rw [List.reverse_cons]; exact hs _ _ ih
  simpa using h l.reverse

/-- The lowest n bits of a number, the highest first. -/
def lb (n v : Nat) : List Bool := (List.range n).map fun j => v.testBit (n - 1 - j)
theorem lb_length (n v : Nat) : (lb n v).length = n := by simp [lb]
theorem lb_get (n v i : Nat) (h : i < (lb n v).length) : (lb n v)[i] = v.testBit (n - 1 - i) := by simp [lb]
theorem lb_ext {n : Nat} {l : List Bool} {v : Nat} (hl : l.length = n) (h : ∀ i, (hi : i < l.length) → l[i] = v.testBit (n - 1 - i)) : l = lb n v := by
  apply List.ext_getElem
  · rw [hl, lb_length]
  · intro i h1 h2
    rw [lb_get]; exact h i h1
theorem lb_succ (n v : Nat) : lb (n + 1) v = lb n (v / 2) ++ [v.testBit 0] := by
  symm
  refine lb_ext (by simp [lb]) ?_
  intro i h1
  have h1' : i < n + 1 := by simpa [lb_length] using h1
  by_cases h : i < n
  · rw [List.getElem_append_left (by rw [lb_length]; exact h), lb_get, Nat.testBit_div_two]
    congr 1; omega
  · obtain rfl : i = n := by omega
    rw [List.getElem_append_right (by rw [lb_length]; omega)]
    simp [lb_length]

/-- A list of bits, the highest first, as a number. -/
def num (l : List Bool) : Nat := l.foldl (fun v b => 2 * v + b.toNat) 0
theorem num_snoc (l : List Bool) (b : Bool) : num (l ++ [b]) = 2 * num l + b.toNat := by simp [num]
theorem num_lt (l : List Bool) : num l < 2 ^ l.length := by
  induction l using snocInd with
  | h0 => simp [num]
  | hs l b ih =>
    rw [num_snoc, List.length_append, List.length_singleton, Nat.pow_succ]
    cases b <;> simp <;> omega
theorem testBit_toNat_zero (b : Bool) (a : Nat) : (2 * a + b.toNat).testBit 0 = b := by
  cases b <;> simp [Nat.testBit_zero]
theorem num_div (l : List Bool) (b : Bool) : (2 * num l + b.toNat) / 2 = num l := by cases b <;> simp <;> omega
theorem lb_num (l : List Bool) : lb l.length (num l) = l := by
  induction l using snocInd with
  | h0 => rfl
  | hs l b ih =>
    rw [List.length_append, List.length_singleton, lb_succ, num_snoc, num_div, ih, testBit_toNat_zero]
theorem num_lb (n v : Nat) : num (lb n v) = v % 2 ^ n := by
  induction n generalizing v with
  | zero => simp [lb, num, Nat.mod_one]
  | succ n ih =>
    rw [lb_succ, num_snoc, ih, Nat.testBit_zero, Nat.pow_succ, Nat.mul_comm (2 ^ n) 2, Nat.mod_mul]
    have : (decide (v % 2 = 1)).toNat = v % 2 := by
      rcases Nat.mod_two_eq_zero_or_one v with h | h <;> simp [h]
    rw [this]; omega
theorem lb_inj {n a b : Nat} (ha : a < 2 ^ n) (hb : b < 2 ^ n) (h : lb n a = lb n b) : a = b := by
  have := congrArg num h
  rwa [num_lb, num_lb, Nat.mod_eq_of_lt ha, Nat.mod_eq_of_lt hb] at this
theorem lb_mod (n v : Nat) : lb n (v % 2 ^ n) = lb n v := by
  refine (lb_ext (lb_length _ _) ?_)
  intro i h
  rw [lb_get]
  rw [lb_length] at h
  rw [Nat.testBit_mod_two_pow]
  simp; omega

/-- The lowest n bits in the other order. -/
def turn (n v : Nat) : Nat := num (lb n v).reverse
theorem turn_lt (n v : Nat) : turn n v < 2 ^ n := by
  have := num_lt (lb n v).reverse
  rw [List.length_reverse, lb_length] at this
  exact this
theorem lb_turn (n v : Nat) : lb n (turn n v) = (lb n v).reverse := by
  have := lb_num (lb n v).reverse
  rwa [List.length_reverse, lb_length] at this
theorem turn_turn (n v : Nat) : turn n (turn n v) = v % 2 ^ n := by
  rw [turn, lb_turn, List.reverse_reverse, num_lb]
theorem turn_testBit (n v i : Nat) : (turn n v).testBit i = (decide (i < n) && v.testBit (n - 1 - i)) := by
  by_cases h : i < n
  · have h1 := lb_turn n v
    have h2 : (lb n (turn n v))[n - 1 - i]'(by rw [lb_length]; omega) = (lb n v).reverse[n - 1 - i]'(by simp [lb_length]; omega) := by simp [h1]
    rw [lb_get, List.getElem_reverse, lb_get] at h2
    simp only [lb_length] at h2
    have e1 : n - 1 - (n - 1 - i) = i := by omega
    rw [e1] at h2
    simp [h, h2]
  · have : turn n v < 2 ^ i := Nat.lt_of_lt_of_le (turn_lt n v) (Nat.pow_le_pow_right (by omega) (by omega))
    rw [Nat.testBit_lt_two_pow this]; simp [h]
theorem turn_xor (n a b : Nat) : turn n (a ^^^ b) = turn n a ^^^ turn n b := by
  apply Nat.eq_of_testBit_eq
  intro i
  simp only [turn_testBit, Nat.testBit_xor]
  cases decide (i < n) <;> simp
theorem turn_inj {n a b : Nat} (ha : a < 2 ^ n) (hb : b < 2 ^ n) (h : turn n a = turn n b) : a = b := by
  have := congrArg (turn n) h
  rwa [turn_turn, turn_turn, Nat.mod_eq_of_lt ha, Nat.mod_eq_of_lt hb] at this

/-- One doubling: the rest by 2 to the width, made one with the polynomial, if the highest bit was 1. -/
def dbl (w p r : Nat) : Nat := if r.testBit (w - 1) then (2 * r % 2 ^ w) ^^^ p else 2 * r % 2 ^ w
def dbls (w p : Nat) : Nat → Nat → Nat
  | 0, r => r
  | k + 1, r => dbls w p k (dbl w p r)
/-- One byte. -/
def byte (w p : Nat) (t : Bool) (r c : Nat) : Nat := dbls w p 8 (r ^^^ ((if t then turn 8 c else c) * 2 ^ (w - 8)))
def div (w p : Nat) (t : Bool) (r : Nat) (l : List Nat) : Nat := l.foldl (byte w p t) r
def sum (w p f : Nat) (t : Bool) (last : Nat) (l : List Nat) : Nat := (if t then turn w (div w p t f l) else div w p t f l) ^^^ last

theorem dbl_lt {w p r : Nat} (hp : p < 2 ^ w) : dbl w p r < 2 ^ w := by
  have : 2 * r % 2 ^ w < 2 ^ w := Nat.mod_lt _ (Nat.two_pow_pos w)
  unfold dbl; split
  · exact Nat.xor_lt_two_pow this hp
  · exact this
theorem dbls_lt {w p : Nat} (hp : p < 2 ^ w) : ∀ (k : Nat) {r : Nat}, r < 2 ^ w → dbls w p k r < 2 ^ w
  | 0, _, h => h
  | k + 1, _, _ => dbls_lt hp k (dbl_lt hp)
theorem cc_lt (t : Bool) {c : Nat} (hc : c < 256) : (if t then turn 8 c else c) < 256 := by
  split
  · exact turn_lt 8 c
  · exact hc
theorem shift_lt {w c : Nat} (hw : 8 ≤ w) (hc : c < 256) : c * 2 ^ (w - 8) < 2 ^ w := by
  have : 2 ^ w = 2 ^ 8 * 2 ^ (w - 8) := by rw [← Nat.pow_add]; congr 1; omega
  rw [this]; exact Nat.mul_lt_mul_of_pos_right hc (Nat.two_pow_pos _)
theorem byte_lt {w p : Nat} (hw : 8 ≤ w) (hp : p < 2 ^ w) (t : Bool) {r c : Nat} (hr : r < 2 ^ w) (hc : c < 256) : byte w p t r c < 2 ^ w := by
  unfold byte
  exact dbls_lt hp 8 (Nat.xor_lt_two_pow hr (shift_lt hw (cc_lt t hc)))
theorem div_lt {w p : Nat} (hw : 8 ≤ w) (hp : p < 2 ^ w) (t : Bool) : ∀ {l : List Nat} {r : Nat}, r < 2 ^ w → (∀ c ∈ l, c < 256) → div w p t r l < 2 ^ w
  | [], _, hr, _ => hr
  | c :: l, r, hr, hc => div_lt hw hp t (l := l) (byte_lt hw hp t hr (hc c (by simp))) (fun d hd => hc d (by simp [hd]))

theorem sum_lt {w p f last : Nat} (hw : 8 ≤ w) (hp : p < 2 ^ w) (hf : f < 2 ^ w) (hlast : last < 2 ^ w) (t : Bool) {l : List Nat} (hl : ∀ c ∈ l, c < 256) : sum w p f t last l < 2 ^ w := by
  unfold sum
  refine Nat.xor_lt_two_pow ?_ hlast
  split
  · exact turn_lt _ _
  · exact div_lt hw hp t hf hl
/-! ### Linear -/
theorem mul_two_xor (a b : Nat) : 2 * (a ^^^ b) = (2 * a) ^^^ (2 * b) := by
  apply Nat.eq_of_testBit_eq; intro i
  cases i with
  | zero => simp [Nat.testBit_zero]
  | succ i => rw [Nat.testBit_succ, Nat.testBit_succ, Nat.xor_div_two]; simp
theorem xor_cancel_r {a b c : Nat} (h : a ^^^ c = b ^^^ c) : a = b := by
  have := congrArg (· ^^^ c) h
  simpa [Nat.xor_assoc] using this
theorem xor_cancel_l {a b c : Nat} (h : c ^^^ a = c ^^^ b) : a = b := xor_cancel_r (c := c) (by rwa [Nat.xor_comm a, Nat.xor_comm b])
theorem xor_zero_eq {a b : Nat} (h : a ^^^ b = 0) : a = b := xor_cancel_r (c := b) (by rw [h, Nat.xor_self])
theorem dbl_xor (w p a b : Nat) : dbl w p (a ^^^ b) = dbl w p a ^^^ dbl w p b := by
  have h : 2 * (a ^^^ b) % 2 ^ w = (2 * a % 2 ^ w) ^^^ (2 * b % 2 ^ w) := by rw [mul_two_xor, Nat.xor_mod_two_pow]
  unfold dbl
  rw [Nat.testBit_xor, h]
  generalize 2 * a % 2 ^ w = x
  generalize 2 * b % 2 ^ w = y
  cases a.testBit (w - 1) <;> cases b.testBit (w - 1) <;> simp
  · rw [Nat.xor_assoc]
  · rw [Nat.xor_assoc, Nat.xor_comm y p, ← Nat.xor_assoc]
  · rw [Nat.xor_comm y p, ← Nat.xor_assoc (x ^^^ p), Nat.xor_assoc x p p, Nat.xor_self, Nat.xor_zero]
theorem dbls_xor (w p : Nat) : ∀ (k a b : Nat), dbls w p k (a ^^^ b) = dbls w p k a ^^^ dbls w p k b
  | 0, _, _ => rfl
  | k + 1, a, b => by simp only [dbls]; rw [dbl_xor, dbls_xor w p k]
theorem mul_pow_xor (a b k : Nat) : (a ^^^ b) * 2 ^ k = (a * 2 ^ k) ^^^ (b * 2 ^ k) := by
  rw [← Nat.shiftLeft_eq, ← Nat.shiftLeft_eq, ← Nat.shiftLeft_eq, Nat.shiftLeft_xor_distrib]
theorem xor4 (a b c d : Nat) : (a ^^^ b) ^^^ (c ^^^ d) = (a ^^^ c) ^^^ (b ^^^ d) := by
  rw [Nat.xor_assoc, ← Nat.xor_assoc b, Nat.xor_comm b c, Nat.xor_assoc c, ← Nat.xor_assoc a]
theorem byte_xor (w p : Nat) (t : Bool) (a b c d : Nat) : byte w p t (a ^^^ b) (c ^^^ d) = byte w p t a c ^^^ byte w p t b d := by
  unfold byte
  rw [← dbls_xor]
  congr 1
  have h : (if t then turn 8 (c ^^^ d) else c ^^^ d) = (if t then turn 8 c else c) ^^^ (if t then turn 8 d else d) := by
    cases t <;> simp [turn_xor]
  rw [h, mul_pow_xor, xor4]
theorem div_line (w p : Nat) (t : Bool) : ∀ (l m n : List Nat) (a b c : Nat), l.length = m.length → m.length = n.length →
    div w p t a l ^^^ div w p t b m ^^^ div w p t c n = div w p t (a ^^^ b ^^^ c) (List.zipWith (· ^^^ ·) (List.zipWith (· ^^^ ·) l m) n)
  | [], [], [], _, _, _, _, _ => rfl
  | x :: l, y :: m, z :: n, a, b, c, h1, h2 => by
    have := div_line w p t l m n (byte w p t a x) (byte w p t b y) (byte w p t c z) (by simpa using h1) (by simpa using h2)
    simp only [div, List.foldl_cons, List.zipWith_cons_cons] at this ⊢
    rw [this, byte_xor, byte_xor]
  | [], _ :: _, _, _, _, _, h, _ => by simp at h
  | _ :: _, [], _, _, _, _, h, _ => by simp at h
  | [], [], _ :: _, _, _, _, _, h => by simp at h
  | _ :: _, _ :: _, [], _, _, _, _, h => by simp at h
theorem sum_line (w p f : Nat) (t : Bool) (last : Nat) (l m n : List Nat) (h1 : l.length = m.length) (h2 : m.length = n.length) :
    sum w p f t last l ^^^ sum w p f t last m ^^^ sum w p f t last n = sum w p f t last (List.zipWith (· ^^^ ·) (List.zipWith (· ^^^ ·) l m) n) := by
  have h := div_line w p t l m n f f f h1 h2
  rw [Nat.xor_self, Nat.zero_xor] at h
  have hl : ∀ a b c : Nat, (a ^^^ last) ^^^ (b ^^^ last) ^^^ (c ^^^ last) = (a ^^^ b ^^^ c) ^^^ last := by
    intro a b c
    rw [xor4 a last b last, Nat.xor_self, Nat.xor_zero, ← Nat.xor_assoc]
  unfold sum
  rw [hl, ← h]
  cases t <;> simp [turn_xor]

/-! ### One to one -/
theorem dbl_inj {w p a b : Nat} (hw : 1 ≤ w) (hodd : p.testBit 0 = true) (ha : a < 2 ^ w) (hb : b < 2 ^ w) (h : dbl w p a = dbl w p b) : a = b := by
  have key : ∀ d, d < 2 ^ w → dbl w p d = 0 → d = 0 := by
    intro d hd h0
    have hlow : (2 * d % 2 ^ w).testBit 0 = false := by
      rw [Nat.testBit_mod_two_pow, Nat.testBit_zero]; simp
    unfold dbl at h0
    split at h0
    · have := congrArg (·.testBit 0) h0
      simp only [Nat.testBit_xor, hlow, hodd] at this
      simp at this
    · rename_i hh
      have hd2 : d < 2 ^ (w - 1) := by
        apply Nat.lt_pow_two_of_testBit
        intro i hi
        by_cases e : i = w - 1
        · subst e; simpa using hh
        · exact Nat.testBit_lt_two_pow (Nat.lt_of_lt_of_le hd (Nat.pow_le_pow_right (by omega) (by omega)))
      have e2 : 2 ^ w = 2 * 2 ^ (w - 1) := by rw [← Nat.pow_succ']; congr 1; omega
      rw [Nat.mod_eq_of_lt (by omega)] at h0
      omega
  have hx : a ^^^ b = 0 := key _ (Nat.xor_lt_two_pow ha hb) (by rw [dbl_xor, h, Nat.xor_self])
  exact xor_zero_eq hx
theorem dbls_inj {w p : Nat} (hw : 1 ≤ w) (hp : p < 2 ^ w) (hodd : p.testBit 0 = true) : ∀ (k : Nat) {a b : Nat}, a < 2 ^ w → b < 2 ^ w → dbls w p k a = dbls w p k b → a = b
  | 0, _, _, _, _, h => h
  | k + 1, _, _, ha, hb, h => dbl_inj hw hodd ha hb (dbls_inj hw hp hodd k (dbl_lt hp) (dbl_lt hp) h)
theorem byte_inj_r {w p : Nat} (hw : 8 ≤ w) (hp : p < 2 ^ w) (hodd : p.testBit 0 = true) (t : Bool) {a b c : Nat} (ha : a < 2 ^ w) (hb : b < 2 ^ w) (hc : c < 256) (h : byte w p t a c = byte w p t b c) : a = b := by
  have hs := shift_lt hw (cc_lt t hc)
  have := dbls_inj (by omega) hp hodd 8 (Nat.xor_lt_two_pow ha hs) (Nat.xor_lt_two_pow hb hs) h
  exact xor_cancel_r this
theorem byte_inj_c {w p : Nat} (hw : 8 ≤ w) (hp : p < 2 ^ w) (hodd : p.testBit 0 = true) (t : Bool) {a c d : Nat} (ha : a < 2 ^ w) (hc : c < 256) (hd : d < 256) (h : byte w p t a c = byte w p t a d) : c = d := by
  have := dbls_inj (by omega) hp hodd 8 (Nat.xor_lt_two_pow ha (shift_lt hw (cc_lt t hc))) (Nat.xor_lt_two_pow ha (shift_lt hw (cc_lt t hd))) h
  have := xor_cancel_l this
  have h2 := Nat.eq_of_mul_eq_mul_right (Nat.two_pow_pos (w - 8)) this
  cases t
  · simpa using h2
  · exact turn_inj hc hd (by simpa using h2)
theorem div_inj {w p : Nat} (hw : 8 ≤ w) (hp : p < 2 ^ w) (hodd : p.testBit 0 = true) (t : Bool) : ∀ {l : List Nat} {a b : Nat}, a < 2 ^ w → b < 2 ^ w → (∀ c ∈ l, c < 256) → div w p t a l = div w p t b l → a = b
  | [], _, _, _, _, _, h => h
  | c :: l, _, _, ha, hb, hc, h =>
    byte_inj_r hw hp hodd t ha hb (hc c (by simp)) (div_inj hw hp hodd t (l := l) (byte_lt hw hp t ha (hc c (by simp))) (byte_lt hw hp t hb (hc c (by simp))) (fun d hd => hc d (by simp [hd])) h)
theorem div_append (w p : Nat) (t : Bool) (r : Nat) (l m : List Nat) : div w p t r (l ++ m) = div w p t (div w p t r l) m := by simp [div]
/-- **Texts that are unlike in one byte have unlike sums.** -/
theorem sum_one {w p f last : Nat} (hw : 8 ≤ w) (hp : p < 2 ^ w) (hf : f < 2 ^ w) (hodd : p.testBit 0 = true) (t : Bool) (l m : List Nat) (c d : Nat)
    (hl : ∀ x ∈ l, x < 256) (hm : ∀ x ∈ m, x < 256) (hc : c < 256) (hd : d < 256) (h : sum w p f t last (l ++ c :: m) = sum w p f t last (l ++ d :: m)) : c = d := by
  have h1 := xor_cancel_r h
  have hlt := div_lt hw hp t hf hl
  have b1 := byte_lt hw hp t hlt hc
  have b2 := byte_lt hw hp t hlt hd
  have h2 : div w p t f (l ++ c :: m) = div w p t f (l ++ d :: m) := by
    cases t
    · simpa using h1
    · have g1 := div_lt hw hp true b1 hm
      have g2 := div_lt hw hp true b2 hm
      refine turn_inj ?_ ?_ (by simpa using h1)
      · rw [div_append]; exact g1
      · rw [div_append]; exact g2
  rw [div_append, div_append] at h2
  exact byte_inj_c hw hp hodd t hlt hc hd (div_inj hw hp hodd t b1 b2 hm h2)
/-! ### The document's lists of bits -/
/-- The first bits made one with another list's. -/
def xorTo (r c : List Bool) : Nat → List Bool
  | 0 => r
  | j + 1 => (xorTo r c j).set j ((xorTo r c j).getD j false != c.getD j false)
theorem xorTo_length (r c : List Bool) : ∀ j, (xorTo r c j).length = r.length
  | 0 => rfl
  | j + 1 => by rw [xorTo, List.length_set, xorTo_length r c j]
theorem xorTo_get (r c : List Bool) : ∀ (j i : Nat), i < r.length → (xorTo r c j).getD i false = if i < j then (r.getD i false != c.getD i false) else r.getD i false
  | 0, i, _ => by simp [xorTo]
  | j + 1, i, h => by
    have hl := xorTo_length r c j
    have ih := xorTo_get r c j
    by_cases e : i = j
    · subst e
      rw [xorTo, List.getD_eq_getElem?_getD, List.getElem?_set_self (by rw [hl]; exact h), Option.getD_some, ih i h, if_neg (by omega), if_pos (by omega)]
    · rw [xorTo, List.getD_eq_getElem?_getD, List.getElem?_set_ne (by omega), ← List.getD_eq_getElem?_getD, ih i h]
      by_cases e2 : i < j
      · rw [if_pos e2, if_pos (by omega)]
      · rw [if_neg e2, if_neg (by omega)]
theorem lb_getD (n v i : Nat) (h : i < n) : (lb n v).getD i false = v.testBit (n - 1 - i) := by
  rw [List.getD_eq_getElem?_getD, List.getElem?_eq_getElem (by rw [lb_length]; exact h), Option.getD_some, lb_get]
theorem lb_of_getD {n : Nat} {l : List Bool} {v : Nat} (hl : l.length = n) (h : ∀ i, i < n → l.getD i false = v.testBit (n - 1 - i)) : l = lb n v := by
  refine lb_ext hl (fun i hi => ?_)
  have := h i (by omega)
  rwa [List.getD_eq_getElem?_getD, List.getElem?_eq_getElem hi, Option.getD_some] at this
theorem xorTo_poly (w r p : Nat) : xorTo (lb w r) (lb w p) w = lb w (r ^^^ p) := by
  refine lb_of_getD (by rw [xorTo_length, lb_length]) (fun i hi => ?_)
  rw [xorTo_get _ _ _ _ (by rw [lb_length]; exact hi), if_pos hi, lb_getD _ _ _ hi, lb_getD _ _ _ hi, Nat.testBit_xor]
theorem xorTo_byte (w r c : Nat) (hw : 8 ≤ w) : xorTo (lb w r) (lb 8 c) 8 = lb w (r ^^^ c * 2 ^ (w - 8)) := by
  refine lb_of_getD (by rw [xorTo_length, lb_length]) (fun i hi => ?_)
  rw [xorTo_get _ _ _ _ (by rw [lb_length]; exact hi), lb_getD _ _ _ hi, Nat.testBit_xor, ← Nat.shiftLeft_eq, Nat.testBit_shiftLeft]
  by_cases h : i < 8
  · rw [if_pos h, lb_getD _ _ _ h]
    have e1 : decide (w - 1 - i ≥ w - 8) = true := by simp; omega
    have e2 : w - 1 - i - (w - 8) = 8 - 1 - i := by omega
    rw [e1, e2]
    cases r.testBit (w - 1 - i) <;> cases c.testBit (8 - 1 - i) <;> rfl
  · rw [if_neg h]
    have e1 : decide (w - 1 - i ≥ w - 8) = false := by simp; omega
    rw [e1]; simp
theorem lb_double (w r : Nat) (hw : 1 ≤ w) : (lb w r).drop 1 ++ [false] = lb w (2 * r % 2 ^ w) := by
  refine lb_of_getD (by simp [lb_length]; omega) (fun i hi => ?_)
  rw [Nat.testBit_mod_two_pow]
  by_cases h : i = w - 1
  · subst h
    rw [List.getD_eq_getElem?_getD, List.getElem?_append_right (by simp [lb_length])]
    have e : w - 1 - ((lb w r).drop 1).length = 0 := by simp [lb_length]
    rw [e]
    have e2 : w - 1 - (w - 1) = 0 := by omega
    rw [e2, Nat.testBit_zero]
    simp
  · rw [List.getD_eq_getElem?_getD, List.getElem?_append_left (by simp [lb_length]; omega), List.getElem?_drop, ← List.getD_eq_getElem?_getD, lb_getD _ _ _ (by omega)]
    have e1 : w - 1 - (1 + i) + 1 = w - 1 - i := by omega
    have e2 : decide (w - 1 - i < w) = true := by simp; omega
    rw [e2, Bool.true_and, ← e1, Nat.testBit_succ]
    congr 1; omega
/-- One doubling of a list of bits. -/
def ldbl (p r : List Bool) : List Bool := if r.getD 0 false then xorTo (r.drop 1 ++ [false]) p (r.drop 1 ++ [false]).length else r.drop 1 ++ [false]
def ldbls (p r : List Bool) : Nat → List Bool
  | 0 => r
  | k + 1 => ldbl p (ldbls p r k)
theorem dbls_succ (w p : Nat) : ∀ (k r : Nat), dbls w p (k + 1) r = dbl w p (dbls w p k r)
  | 0, _ => rfl
  | k + 1, r => by rw [dbls, dbls_succ w p k (dbl w p r), dbls]
theorem ldbl_lb (w p r : Nat) (hw : 1 ≤ w) : ldbl (lb w p) (lb w r) = lb w (dbl w p r) := by
  unfold ldbl dbl
  rw [lb_getD _ _ _ (by omega), lb_double w r hw, lb_length, Nat.sub_zero]
  split
  · rw [xorTo_poly]
  · rfl
theorem ldbls_lb (w p r : Nat) (hw : 1 ≤ w) : ∀ k, ldbls (lb w p) (lb w r) k = lb w (dbls w p k r)
  | 0 => rfl
  | k + 1 => by rw [ldbls, ldbls_lb w p r hw k, ldbl_lb _ _ _ hw, dbls_succ]
def cbits (t : Bool) (c : Nat) : List Bool := if t then (lb 8 c).reverse else lb 8 c
theorem cbits_lb (t : Bool) (c : Nat) : cbits t c = lb 8 (if t then turn 8 c else c) := by cases t <;> simp [cbits, lb_turn]
theorem lbyte (w p r c : Nat) (t : Bool) (hw : 8 ≤ w) : ldbls (lb w p) (xorTo (lb w r) (cbits t c) 8) 8 = lb w (byte w p t r c) := by
  rw [cbits_lb, xorTo_byte w r _ hw, ldbls_lb _ _ _ (by omega)]
  rfl
theorem ldbl_length (p r : List Bool) (h : 1 ≤ r.length) : (ldbl p r).length = r.length := by
  unfold ldbl
  split
  · rw [xorTo_length]; simp; omega
  · simp; omega
end Go.Proofs.Ytcldlfhnmkogeaa.CrcPlain
