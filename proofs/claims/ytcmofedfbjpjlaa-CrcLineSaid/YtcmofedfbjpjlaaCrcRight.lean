import Derived.Test.YtcmofedfbjpjlaaPRightx1
import Derived.Test.YtcmofedfbjpjlaaPOfx1
import Derived.Test.YtcmofedfbjpjlaaCrcRefSum
/- Which kinds are right; the program's sum of one that isn't. -/
set_option linter.unusedVariables false
set_option linter.unusedSimpArgs false
namespace Go.Proofs.Ytcmofedfbjpjlaa.CrcRight
open Go.RowKit Go.Proofs.Ytcmofedfbjpjlaa.PRight Go.Proofs.Ytcmofedfbjpjlaa.PSum Go.Proofs.YtcmofedfbjpjlaaW.PrintWords Go.Proofs.Ytcmofedfbjpjlaa.Nats Go.Proofs.Ytcmofedfbjpjlaa.CrcPlain Go.Proofs.Ytcmofedfbjpjlaa.RunPSum Go.Proofs.Ytcmofedfbjpjlaa.CrcCalls

/-- A kind is right: of a width that there is, its numbers below 2 to the width. -/
def Right (w : Int) (p f last : Nat) : Prop := (w = 8 ∧ p < 256 ∧ f < 256 ∧ last < 256) ∨ (w = 16 ∧ p < 65536 ∧ f < 65536 ∧ last < 65536) ∨ w = 32
instance (w : Int) (p f last : Nat) : Decidable (Right w p f last) := inferInstanceAs (Decidable (_ ∨ _ ∨ _))

theorem bad_j0 (k : Nat) (l : List Int) (w p f : Int) (t : Bool) (last : Int) : crc_Sum.j0 (k + 1) l true w p f t last = some (0, 1) := by
  simp [crc_Sum.j0]
theorem bad_j1 (k : Nat) (l : List Int) (w p f : Int) (t : Bool) (last : Int) : crc_Sum.j1 (k + 1) l true w p f t last = some (0, 1) := by
  simp [crc_Sum.j1]
theorem bad_below (w : Nat) (hw : w < 32) (p f last : Nat) (t : Bool) (l : List Int) (hp4 : p < 4294967296) (hf4 : f < 4294967296) (hl4 : last < 4294967296) (h : ¬ (p < 2 ^ w ∧ f < 2 ^ w ∧ last < 2 ^ w)) :
    Ev (fun k => crc_Sum.j0 k l false (w : Int) (p : Int) (f : Int) t (last : Int)) (0, 1) := by
  have hj : Ev (fun k => crc_Sum.j1 k l true (w : Int) (p : Int) (f : Int) t (last : Int)) (0, 1) := Ev.step (f := fun _ => some (0, 1)) (fun k => bad_j1 ..) (Ev.now _)
  refine Ev.step (fun k => ?_) hj
  simp only [crc_Sum.j0]
  rw [if_neg (by simp)]
  by_cases h1 : p < 2 ^ w
  · rw [below_yes p w (by omega) h1 hp4]
    simp only [Option.bind_some, if_true]
    by_cases h2 : f < 2 ^ w
    · rw [below_yes f w (by omega) h2 hf4]
      simp only [Option.bind_some, if_true]
      rw [below_no last w hw (by omega)]
      rfl
    · rw [below_no f w hw (by omega)]
      rfl
  · rw [below_no p w hw (by omega)]
    rfl
theorem bad_ev (w : Int) (p f last : Nat) (t : Bool) (l : List Int) (hp4 : p < 4294967296) (hf4 : f < 4294967296) (hl4 : last < 4294967296) (h : ¬ Right w p f last) :
    Ev (fun k => crc_Sum.f k w (p : Int) (f : Int) t (last : Int) l) (0, 1) := by
  unfold Right at h
  by_cases h8 : w = 8
  · subst h8
    have := bad_below 8 (by omega) p f last t l hp4 hf4 hl4 (fun g => h (.inl ⟨rfl, g⟩))
    exact Ev.congr (fun k => by unfold crc_Sum.f; rfl) this
  · by_cases h16 : w = 16
    · subst h16
      have := bad_below 16 (by omega) p f last t l hp4 hf4 hl4 (fun g => h (.inr (.inl ⟨rfl, g⟩)))
      exact Ev.congr (fun k => by unfold crc_Sum.f; rfl) this
    · have h32 : w ≠ 32 := fun e => h (.inr (.inr e))
      have hj : Ev (fun k => crc_Sum.j0 k l true w (p : Int) (f : Int) t (last : Int)) (0, 1) := Ev.step (f := fun _ => some (0, 1)) (fun k => bad_j0 ..) (Ev.now _)
      refine Ev.congr (fun k => ?_) hj
      unfold crc_Sum.f
      rw [if_neg h8, if_neg h16, bne_iff_ne.2 h32]
theorem sum_bad (w : Int) (p f last : Nat) (t : Bool) (l : List Nat) (hp4 : p < 4294967296) (hf4 : f < 4294967296) (hl4 : last < 4294967296) (h : ¬ Right w p f last) (A : Option Addr) (n c : Nat) (W : World) (hn : l.length = n) (hc : n ≤ c) (hr : Kd.C (Kd.int .u8) W A n (ints l)) :
    Calls Try.prog 39 #[.agg #[.int .i64 w, .int .u32 (p : Int), .int .u32 (f : Int), .bool t, .int .u32 (last : Int)], .slice A n c] W fun e w' => e = .returned (.tuple #[.int .u32 0, .int .i64 1]) ∧ Below W.heap.size W w' := by
  subst hn
  obtain ⟨k, hk⟩ := (bad_ev w p f last t (ints l) hp4 hf4 hl4 h).rounds
  have h := crc_Sum.calls k w p f t last A c (ints l) _ _ W (by rw [ints_length]; exact hr) (by rw [ints_length]; exact hc) hk
  rw [ints_length] at h
  exact h

theorem u64w (x : Nat) (h : x < 18446744073709551616) : IntKind.u64.wrap (x : Int) = (x : Int) := by
  simp [IntKind.wrap, IntKind.signed, IntKind.bits]; omega
theorem fin_at (w : Nat) (hw : w = 8 ∨ w = 16 ∨ w = 32) (p f last : Nat) (t : Bool) (hp4 : p < 4294967296) (hf4 : f < 4294967296) (hl4 : last < 4294967296) (k : Nat) :
    lancetref04_Right.l0 (k + 1) ((2 ^ w : Nat) : Int) (w : Int) (w : Int) (p : Int) (f : Int) t (last : Int) = some (decide (p < 2 ^ w ∧ f < 2 ^ w ∧ last < 2 ^ w)) := by
  simp only [lancetref04_Right.l0]
  rw [if_neg (by omega), u64w p (by omega), u64w f (by omega), u64w last (by omega)]
  have key : ∀ M : Nat, (if (p : Int) < ((M : Nat) : Int) then (if (f : Int) < ((M : Nat) : Int) then some (decide ((last : Int) < ((M : Nat) : Int))) else some false) else some false) = some (decide (p < M ∧ f < M ∧ last < M)) := by
    intro M
    by_cases h1 : p < M
    · rw [if_pos (by omega)]
      by_cases h2 : f < M
      · rw [if_pos (by omega)]
        congr 1
        by_cases h3 : last < M
        · simp [h1, h2, h3]
        · simp [h3]
      · rw [if_neg (by omega)]; simp [h2]
    · rw [if_neg (by omega)]; simp [h1]
  rw [key]
  rcases hw with rfl | rfl | rfl
  · rw [if_pos (by omega)]
  · rw [if_neg (by omega), if_pos (by omega)]
  · rw [if_neg (by omega), if_neg (by omega), if_pos (by omega)]
theorem right_yes (w : Nat) (hw : w = 8 ∨ w = 16 ∨ w = 32) (p f last : Nat) (t : Bool) (hp4 : p < 4294967296) (hf4 : f < 4294967296) (hl4 : last < 4294967296) : ∀ (d i : Nat), i + d = w →
    Ev (fun k => lancetref04_Right.l0 k ((2 ^ i : Nat) : Int) (i : Int) (w : Int) (p : Int) (f : Int) t (last : Int)) (decide (p < 2 ^ w ∧ f < 2 ^ w ∧ last < 2 ^ w))
  | 0, i, hi => by
    obtain rfl : i = w := by omega
    exact Ev.step (f := fun _ => some _) (fun k => fin_at i hw p f last t hp4 hf4 hl4 k) (Ev.now _)
  | d + 1, i, hi => by
    refine Ev.step (fun k => ?_) (right_yes w hw p f last t hp4 hf4 hl4 d (i + 1) (by omega))
    simp only [lancetref04_Right.l0]
    have hi32 : i + 1 ≤ 32 := by omega
    have hpow : 2 ^ i * 2 < 18446744073709551616 := by
      have : (2 : Nat) ^ (i + 1) ≤ 2 ^ 32 := Nat.pow_le_pow_right (by omega) hi32
      rw [Nat.pow_succ] at this; omega
    have e1 : IntKind.u64.wrap (((2 ^ i : Nat) : Int) * 2) = ((2 ^ (i + 1) : Nat) : Int) := by
      have := u64w (2 ^ i * 2) hpow
      rw [Nat.pow_succ, ← this]; congr 1
    rw [if_pos (by omega), if_pos (by omega), e1, w64 (by omega) (by omega)]
    rfl
theorem right_no (w : Int) (h8 : w ≠ 8) (h16 : w ≠ 16) (h32 : w ≠ 32) (p f last : Int) (t : Bool) : ∀ (d i : Nat) (m : Int), i + d = 40 →
    Ev (fun k => lancetref04_Right.l0 k m (i : Int) w p f t last) false
  | 0, i, m, hi => by
    refine Ev.step (f := fun _ => some false) (fun k => ?_) (Ev.now _)
    simp only [lancetref04_Right.l0]
    rw [if_neg h8, if_neg h16, if_neg h32]
    by_cases h : (i : Int) < w
    · rw [if_pos h, if_neg (by omega)]
    · rw [if_neg h]
  | d + 1, i, m, hi => by
    by_cases h : (i : Int) < w
    · refine Ev.step (fun k => ?_) (right_no w h8 h16 h32 p f last t d (i + 1) (IntKind.u64.wrap (m * 2)) (by omega))
      simp only [lancetref04_Right.l0]
      rw [if_pos h, if_pos (by omega), w64 (by omega) (by omega)]
      rfl
    · refine Ev.step (f := fun _ => some false) (fun k => ?_) (Ev.now _)
      simp only [lancetref04_Right.l0]
      rw [if_neg h8, if_neg h16, if_neg h32, if_neg h]
theorem right_ev (w : Int) (p f last : Nat) (t : Bool) (hp4 : p < 4294967296) (hf4 : f < 4294967296) (hl4 : last < 4294967296) : Ev (fun k => lancetref04_Right.f k w (p : Int) (f : Int) t (last : Int)) (decide (Right w p f last)) := by
  by_cases h8 : w = 8
  · subst h8
    have := right_yes 8 (by omega) p f last t hp4 hf4 hl4 8 0 rfl
    rw [show decide (Right 8 p f last) = decide (p < 2 ^ 8 ∧ f < 2 ^ 8 ∧ last < 2 ^ 8) from by simp [Right]]
    exact this
  · by_cases h16 : w = 16
    · subst h16
      have := right_yes 16 (by omega) p f last t hp4 hf4 hl4 16 0 rfl
      rw [show decide (Right 16 p f last) = decide (p < 2 ^ 16 ∧ f < 2 ^ 16 ∧ last < 2 ^ 16) from by simp [Right]]
      exact this
    · by_cases h32 : w = 32
      · subst h32
        have := right_yes 32 (by omega) p f last t hp4 hf4 hl4 32 0 rfl
        rw [show decide (p < 2 ^ 32 ∧ f < 2 ^ 32 ∧ last < 2 ^ 32) = decide (Right 32 p f last) from by
          rw [decide_eq_decide]; exact ⟨fun _ => .inr (.inr rfl), fun _ => ⟨hp4, hf4, hl4⟩⟩] at this
        exact this
      · have := right_no w h8 h16 h32 p f last t 40 0 1 rfl
        rw [show decide (Right w p f last) = false from by simp [Right, h8, h16, h32]]
        exact this
theorem right_calls (w : Int) (p f last : Nat) (t : Bool) (hp4 : p < 4294967296) (hf4 : f < 4294967296) (hl4 : last < 4294967296) (W : World) :
    Calls Try.prog 41 #[.agg #[.int .i64 w, .int .u32 (p : Int), .int .u32 (f : Int), .bool t, .int .u32 (last : Int)]] W fun e w' => e = .returned (.bool (decide (Right w p f last))) ∧ Below W.heap.size W w' := by
  obtain ⟨k, hk⟩ := (right_ev w p f last t hp4 hf4 hl4).rounds
  exact lancetref04_Right.calls k w p f t last _ W hk
/-- A right kind: the program's sum and the document's are one. -/
theorem sum_right (w : Int) (p f last : Nat) (t : Bool) (l : List Nat) (hp4 : p < 4294967296) (hf4 : f < 4294967296) (hl4 : last < 4294967296) (h : Right w p f last) (hl : ∀ x ∈ l, x < 256) (A : Option Addr) (n c : Nat) (hn : l.length = n) (hm : n < 9223372036854775807) (hc : n ≤ c) : ∃ s : Nat,
    (∀ W, Kd.C (Kd.int .u8) W A n (ints l) → Calls Try.prog 39 #[.agg #[.int .i64 w, .int .u32 (p : Int), .int .u32 (f : Int), .bool t, .int .u32 (last : Int)], .slice A n c] W fun e w' => e = .returned (.tuple #[.int .u32 (s : Int), .int .i64 0]) ∧ Below W.heap.size W w') ∧
    (∀ W, Kd.C (Kd.int .u8) W A n (ints l) → Calls Try.prog 42 #[.agg #[.int .i64 w, .int .u32 (p : Int), .int .u32 (f : Int), .bool t, .int .u32 (last : Int)], .slice A n c] W fun e w' => e = .returned (.int .u32 (s : Int)) ∧ Below W.heap.size W w') ∧ s = CrcPlain.sum w.toNat p f t last l := by
  rcases h with ⟨rfl, h1, h2, h3⟩ | ⟨rfl, h1, h2, h3⟩ | rfl
  · exact ⟨_, fun W hC => sum8 p f last t l h1 h2 h3 hl (by omega) A n c W hn hc hC, fun W hC => CrcRefSum.refSum 8 p f last t l (by omega) (by omega) h1 h2 hp4 hf4 hl4 hl A n c hn (by omega) W hC, rfl⟩
  · exact ⟨_, fun W hC => sum16 p f last t l h1 h2 h3 hl (by omega) A n c W hn hc hC, fun W hC => CrcRefSum.refSum 16 p f last t l (by omega) (by omega) h1 h2 hp4 hf4 hl4 hl A n c hn (by omega) W hC, rfl⟩
  · exact ⟨_, fun W hC => sum32 p f last t l hp4 hf4 hl4 hl (by omega) A n c W hn hc hC, fun W hC => CrcRefSum.refSum 32 p f last t l (by omega) (by omega) hp4 hf4 hp4 hf4 hl4 hl A n c hn (by omega) W hC, rfl⟩
theorem right_lt {w : Int} {p f last : Nat} (t : Bool) {l : List Nat} (hp4 : p < 4294967296) (hf4 : f < 4294967296) (hl4 : last < 4294967296) (h : Right w p f last) (hl : ∀ x ∈ l, x < 256) : CrcPlain.sum w.toNat p f t last l < 4294967296 := by
  rcases h with ⟨rfl, h1, h2, h3⟩ | ⟨rfl, h1, h2, h3⟩ | rfl
  · exact Nat.lt_of_lt_of_le (sum_lt (w := 8) (by decide) h1 h2 h3 t hl) (by decide)
  · exact Nat.lt_of_lt_of_le (sum_lt (w := 16) (by decide) h1 h2 h3 t hl) (by decide)
  · exact sum_lt (w := 32) (by decide) hp4 hf4 hl4 t hl
end Go.Proofs.Ytcmofedfbjpjlaa.CrcRight
