import Derived.Test.YtcldlfhnmkogeaaCrcRefTurn
import Derived.Test.YtcldlfhnmkogeaaWApart
import Derived.RegionTactic
import Derived.BigRegion
import Derived.Laws.BitsAllLaws
import Derived.Deep.DeepCutAuto
/- The document's sum, walked: its lists of bits are those of the plain sum. -/
set_option linter.unusedVariables false
set_option linter.unusedSimpArgs false
namespace Go.Proofs.Ytcldlfhnmkogeaa.CrcRefSum
open Go.RowKit Go.Proofs.YtcldlfhnmkogeaaW.PrintWords Go.Proofs.Ytcldlfhnmkogeaa.Nats Go.Proofs.Ytcldlfhnmkogeaa.CrcPlain Go.Proofs.Ytcldlfhnmkogeaa.CrcRefTurn Go.Proofs.Ytcldlfhnmkogeaa.Pbits Go.Proofs.Ytcldlfhnmkogeaa.Pturned

/-- Where the bits stand: r in a row of its own (block g5), q in another one; the boxed kind; nothing that lay before has turned. -/
structure St (W wr : World) (gb : Nat) (ks : Array Value) (g5 n c5 : Nat) (rl : List Bool) (v6 : Value) (q : List Bool) : Prop where
  R5 : Kd.R Kd.bool 4 wr W.heap.size (fun _ => True) (.slice (some ⟨g5, 0, none⟩) n c5) rl
  R6 : Kd.R Kd.bool 4 wr W.heap.size (fun k => k ≠ g5) v6 q
  bk : wr.heap[gb]? = some (.cells ks 121 (0, 0))
  be : Below W.heap.size W wr
section
variable {W wr w2 : World} {gb g5 n c5 : Nat} {ks : Array Value} {rl q : List Bool} {v6 : Value}
theorem St.len (h : St W wr gb ks g5 n c5 rl v6 q) : rl.length = n := (Kd.R_reads' h.R5).1.symm
theorem St.read (h : St W wr gb ks g5 n c5 rl v6 q) : Kd.C Kd.bool wr (some ⟨g5, 0, none⟩) n rl := by have := (Kd.R_reads' h.R5).2.2; rwa [h.len] at this
theorem St.cap (h : St W wr gb ks g5 n c5 rl v6 q) : n ≤ c5 := (Kd.R_reads' h.R5).2.1
theorem St.low (h : St W wr gb ks g5 n c5 rl v6 q) : W.heap.size ≤ g5 := by
  obtain ⟨inner, ho⟩ := Kd.R_own h.R5
  exact own_base ho g5 (by simp [Value.ownBlock])
theorem St.typed (h : St W wr gb ks g5 n c5 rl v6 q) : ∃ cells, wr.heap[g5]? = some (.cells cells 4 (0, 0)) := by
  obtain ⟨inner, ho⟩ := Kd.R_own h.R5
  exact own_typed ho g5 (by simp [Value.ownBlock])
theorem St.below (h : St W wr gb ks g5 n c5 rl v6 q) (hb : Below wr.heap.size wr w2) : St W w2 gb ks g5 n c5 rl v6 q :=
  ⟨Kd.R_below h.R5 hb, Kd.R_below h.R6 hb, blk_below h.bk hb, h.be.trans (hb.mono h.be.size)⟩
theorem St.drew (h : St W wr gb ks g5 n c5 rl v6 q) : St W wr.drew gb ks g5 n c5 rl v6 q := h.below (below_drew (Below.refl _ _))
theorem St.cell (h : St W wr gb ks g5 n c5 rl v6 q) {i : Nat} (hi : i < n) : wr.cell? ⟨g5, i, none⟩ = some (.bool (rl.getD i false)) ∧ wr.frozen? ⟨g5, i, none⟩ = false := by
  have := Kd.R_celln false h.R5 (i : Int) (by omega) (by omega)
  rwa [rdOf, Int.toNat_natCast] at this
theorem St.set (h : St W wr gb ks g5 n c5 rl v6 q) (i : Nat) (b : Bool) : St W (wr.setCell ⟨g5, i, none⟩ (.bool b)) gb ks g5 n c5 (rl.set i b) v6 q := by
  have h1 := Kd.R_putn h.R5 (i : Int) b
  rw [Int.toNat_natCast] at h1
  obtain ⟨cells, hc⟩ := h.typed
  refine ⟨h1, Kd.R_far h.R6 (p := ⟨g5, i, none⟩) (fun k hk => hk) _, ?_, h.be.setCell (p := ⟨g5, i, none⟩) h.low _⟩
  rw [Below.heap_setCell wr ⟨g5, i, none⟩ _ _ (blk_ne h.bk hc (by decide))]
  exact h.bk
theorem bthen {w w1 w2 : World} (h : Below w.heap.size w w1) (k : Below w1.heap.size w1 w2) : Below w.heap.size w w2 := h.trans (k.mono h.size)
/-- r has been made anew. -/
theorem St.new (h : St W wr gb ks g5 n c5 rl v6 q) {g' c' : Nat} {rl' : List Bool} (hR : Kd.R Kd.bool 4 w2 wr.heap.size (fun _ => True) (.slice (some ⟨g', 0, none⟩) n c') rl') (hb : Below wr.heap.size wr w2) : St W w2 gb ks g' n c' rl' v6 q := by
  obtain ⟨inner, ho⟩ := Kd.R_own hR
  have hg : wr.heap.size ≤ g' := own_base ho g' (by simp [Value.ownBlock])
  exact ⟨Kd.R_lower hR h.be.size, Kd.R_below (Kd.R_mono (Kd.R_bound h.R6) (fun k hk => by have := hk.2.2.1; omega)) hb, blk_below h.bk hb, h.be.trans (hb.mono h.be.size)⟩
theorem C_tail (h : St W wr gb ks g5 n c5 rl v6 q) (hn : 2 ≤ n) : Kd.C Kd.bool wr (some ⟨g5, 1, none⟩) (n - 1) (rl.drop 1) := by
  have h0 := h.read
  have hl := h.len
  have hc := h.cap
  have h1 := Kd.C_drop (m := 1) (c := c5) (xs := rl) (A := some ⟨g5, 0, none⟩) (k := Kd.bool) (w := wr) (by rw [hl]; exact h0) (by omega) (by omega)
  rw [if_neg (by omega), List.length_drop, hl] at h1
  exact h1
/-- A row that another one was made beside. -/
theorem far_set {base : Nat} {v8 : Value} {cl : List Bool} (h : Kd.R Kd.bool 4 wr base (fun k => k ≠ g5) v8 cl) (i : Nat) (b : Bool) : Kd.R Kd.bool 4 (wr.setCell ⟨g5, i, none⟩ (.bool b)) base (fun k => k ≠ g5) v8 cl :=
  Kd.R_far h (p := ⟨g5, i, none⟩) (fun k hk => hk) _
/-- What was made from a block on that lies behind g5. -/
theorem far_new {base : Nat} {v8 : Value} {cl : List Bool} (h : Kd.R Kd.bool 4 wr base (fun _ => True) v8 cl) (hb : g5 < base) : Kd.R Kd.bool 4 wr base (fun k => k ≠ g5) v8 cl :=
  Kd.R_mono (Kd.R_bound h) (fun k hk => by have := hk.2.1; omega)
end

theorem bitsC (v n : Nat) (hv : v < 4294967296) (h1 : 1 ≤ n) (hn : n ≤ 40) (w : World) : Calls Try.prog 88 #[.int .u32 (v : Int), .int .i64 (n : Int)] w fun e w' =>
    ∃ g c, e = .returned (.slice (some ⟨g, 0, none⟩) n c) ∧ Kd.R Kd.bool 4 w' w.heap.size (fun _ => True) (.slice (some ⟨g, 0, none⟩) n c) (lb n v) ∧ Below w.heap.size w w' := by
  obtain ⟨kb, hkb⟩ := (bits_ev v n hv hn).rounds
  refine (lancetref04_bits.calls kb v n _ w hkb).mono ?_
  rintro e w1 ⟨v1, rfl, hR1, hb1⟩
  obtain ⟨g, c, rfl, _⟩ := Kd.R_form hR1 (by rw [lb_length]; exact h1)
  rw [lb_length] at hR1
  exact ⟨g, c, by rw [lb_length], hR1, hb1⟩
theorem turnedC (l : List Bool) (n : Nat) (hl : l.length = n) (h1 : 1 ≤ n) (hn : n ≤ 40) (A : Option Addr) (c : Nat) (w : World) (hc : n ≤ c) (hC : Kd.C Kd.bool w A n l) : Calls Try.prog 89 #[.slice A n c] w fun e w' =>
    ∃ g c, e = .returned (.slice (some ⟨g, 0, none⟩) n c) ∧ Kd.R Kd.bool 4 w' w.heap.size (fun _ => True) (.slice (some ⟨g, 0, none⟩) n c) l.reverse ∧ Below w.heap.size w w' := by
  subst hl
  obtain ⟨kt, hkt⟩ := (turned_ev l (by omega)).rounds
  refine (lancetref04_turned.calls kt A c l _ w hC hc hkt).mono ?_
  rintro e w1 ⟨v1, rfl, hR1, hb1⟩
  obtain ⟨g, c, rfl, _⟩ := Kd.R_form hR1 (by rw [List.length_reverse]; exact h1)
  rw [List.length_reverse] at hR1
  exact ⟨g, c, by rw [List.length_reverse], hR1, hb1⟩
theorem bits8 (b : Nat) (hb : b < 256) (w : World) : Calls Try.prog 88 #[.int .u32 (b : Int), .int .i64 8] w fun e w' =>
    ∃ g c, e = .returned (.slice (some ⟨g, 0, none⟩) 8 c) ∧ Kd.R Kd.bool 4 w' w.heap.size (fun _ => True) (.slice (some ⟨g, 0, none⟩) 8 c) (lb 8 b) ∧ Below w.heap.size w w' := bitsC b 8 (by omega) (by omega) (by omega) w
def ks (w p f : Nat) (t : Bool) (last : Nat) : Array Value := #[.int .i64 (w : Int), .int .u32 (p : Int), .int .u32 (f : Int), .bool t, .int .u32 (last : Int)]
theorem ks_get (w p f : Nat) (t : Bool) (last : Nat) {wr : World} {gb : Nat} {ty : TypeId} (h : wr.heap[gb]? = some (.cells (ks w p f t last) ty (0, 0))) :
    wr.cell? ⟨gb, 0, none⟩ = some (.int .i64 (w : Int)) ∧ wr.cell? ⟨gb, 1, none⟩ = some (.int .u32 (p : Int)) ∧ wr.cell? ⟨gb, 2, none⟩ = some (.int .u32 (f : Int)) ∧ wr.cell? ⟨gb, 3, none⟩ = some (.bool t) ∧ wr.cell? ⟨gb, 4, none⟩ = some (.int .u32 (last : Int)) :=
  ⟨blk_cell h 0, blk_cell h 1, blk_cell h 2, blk_cell h 3, blk_cell h 4⟩

/-- Between two rounds of a loop that makes r anew: so many rounds are over, r is a row that holds these bits. -/
def Rel (W : World) (gb : Nat) (ks : Array Value) (v6 : Value) (q : List Bool) (w most : Nat) (F : Nat → List Bool) (s5 j : Value) (wr : World) : Prop :=
  ∃ (m g c : Nat), m ≤ most ∧ j = .int .i64 (m : Int) ∧ s5 = .slice (some ⟨g, 0, none⟩) w c ∧ St W wr gb ks g w c (F m) v6 q

set_option maxRecDepth 100000 in
set_option maxHeartbeats 4000000 in
theorem refSum (w p f last : Nat) (t : Bool) (l : List Nat) (hw1 : 8 ≤ w) (hw2 : w ≤ 32) (hp : p < 2 ^ w) (hf : f < 2 ^ w) (hp4 : p < 4294967296) (hf4 : f < 4294967296) (hl4 : last < 4294967296) (hl : ∀ x ∈ l, x < 256) (A : Option Addr) (n c : Nat) (hn : l.length = n) (hnm : n ≤ 9223372036854775807) (W : World) (hC : Kd.C (Kd.int .u8) W A n (ints l)) :
    Calls Try.prog 70 #[.agg (ks w p f t last), .slice A n c] W fun e w' => e = .returned (.int .u32 ((CrcPlain.sum w p f t last l : Nat) : Int)) ∧ Below W.heap.size W w' := by
  have Hn := Lib.hid hn
  clear hn
  unfold ks
  go_enter Try.func70, Try.ntmps70
  go_wp2_with fail
  refine (bitsC f w hf4 (by omega) (by omega) _).mono ?_
  rintro e w1 ⟨g1, c1, rfl, hR1, hb1⟩
  have hbk1 : w1.heap[W.heap.size]? = some (.cells (ks w p f t last) 121 (0, 0)) := blk_below (blk_new W _) hb1
  obtain ⟨k0, k1, k2, k3, k4⟩ := ks_get _ _ _ _ _ hbk1
  go_wp2_with fail
  refine (bitsC p w hp4 (by omega) (by omega) _).mono ?_
  rintro e w2 ⟨g2, c2, rfl, hR2, hb2⟩
  clear k0 k1 k2 k3 k4
  go_wp2_with fail
  have hg1 : g1 < w1.heap.size := Kd.R_lt hR1 g1 (by simp [Value.ownBlock])
  have hS : St W w2 W.heap.size (ks w p f t last) g1 w c1 (lb w (div w p t f (l.take 0))) (.slice (some ⟨g2, 0, none⟩) w c2) (lb w p) :=
    ⟨Kd.R_lower (Kd.R_below hR1 hb2) (below_alloc (Below.refl _ _) _).size, Kd.R_lower (far_new hR2 hg1) (bthen (below_alloc (Below.refl _ _) _) hb1).size, blk_below hbk1 hb2, bthen (bthen (below_alloc (Below.refl _ _) _) hb1) hb2⟩
  clear hR1 hR2 hbk1 hg1 hb1 hb2
  go_loopw [5, 7] (Rel W W.heap.size (ks w p f t last) (.slice (some ⟨g2, 0, none⟩) w c2) (lb w p) w n (fun k => lb w (div w p t f (l.take k)))) (fun _ i _ => n - (intOf i).toNat)
  case atStart => exact ⟨0, g1, c1, Nat.zero_le _, rfl, rfl, hS⟩
  case round =>
    clear hS
    obtain ⟨k, g5, c5, hk, rfl, rfl, hS⟩ := hrel
    by_cases hlt : k < n
    · have hkl : k < l.length := by rw [Hn.out]; exact hlt
      obtain ⟨b, hb⟩ : ∃ b, b = l[k] := ⟨_, rfl⟩
      have HB := Lib.hid hb
      clear hb
      have hb256 : b < 256 := by rw [HB.out]; exact hl _ (List.getElem_mem hkl)
      obtain ⟨ad, rfl, hcl⟩ := Kd.at_int (Kd.C_below hC hS.be) (k : Int) (by omega) (by omega)
      rw [Int.toNat_natCast, show rd (ints l) (k : Int) = (b : Int) from by rw [HB.out]; simp [rd, ints, List.getD_eq_getElem?_getD, hkl]] at hcl
      go_wp2_with fail
      refine (bits8 b hb256 _).mono ?_
      rintro e w3 ⟨g8, c8, rfl, hR8, hb3⟩
      clear hcl
      have hg5 : g5 < wr.heap.size := Kd.R_lt hS.R5 g5 (by simp [Value.ownBlock])
      have hg58 : g5 < w3.heap.size := Nat.lt_of_lt_of_le hg5 hb3.size
      have hS3 := hS.below hb3
      have hr8 := far_new hR8 hg5
      clear hS
      obtain ⟨k0, k1, k2, k3, k4⟩ := ks_get _ _ _ _ _ hS3.bk
      clear k0 k1 k2 k4
      go_upto_if 36 with fail
      go_cut [8] (fun s8 wx => ∃ (g c B8 : Nat), s8 = .slice (some ⟨g, 0, none⟩) 8 c ∧ St W wx W.heap.size (ks w p f t last) g5 w c5 (lb w (div w p t f (l.take k))) (.slice (some ⟨g2, 0, none⟩) w c2) (lb w p) ∧ Kd.R Kd.bool 4 wx B8 (fun k => k ≠ g5) (.slice (some ⟨g, 0, none⟩) 8 c) (cbits t b))
      case first =>
        cases t with
        | false =>
          go_wp2_with fail
          go_meet
          exact ⟨g8, c8, _, rfl, hS3, hr8⟩
        | true =>
          go_wp2_with fail
          refine (turnedC (lb 8 b) 8 (lb_length 8 b) (by omega) (by omega) (some ⟨g8, 0, none⟩) c8 _ (Kd.R_reads' hR8).2.1 (by have := (Kd.R_reads' hR8).2.2; rwa [lb_length] at this)).mono ?_
          rintro e w4 ⟨g9, c9, rfl, hR9, hb4⟩
          go_wp2_with fail
          go_meet
          exact ⟨g9, c9, _, rfl, hS3.below hb4, far_new hR9 hg58⟩
      case rest =>
        clear hS3 hr8 hR8 k3 hb3
        obtain ⟨g8', c8', B8, rfl, hS4, hR8⟩ := hcut
        go_wp2_with fail
        go_loopw [9] (fun j wr2 => ∃ m : Nat, m ≤ 8 ∧ j = .int .i64 (m : Int) ∧ St W wr2 W.heap.size (ks w p f t last) g5 w c5 (xorTo (lb w (div w p t f (l.take k))) (cbits t b) m) (.slice (some ⟨g2, 0, none⟩) w c2) (lb w p) ∧ Kd.R Kd.bool 4 wr2 B8 (fun k => k ≠ g5) (.slice (some ⟨g8', 0, none⟩) 8 c8') (cbits t b)) (fun j _ => 8 - (intOf j).toNat)
        case atStart => exact ⟨0, by omega, rfl, hS4, hR8⟩
        case round =>
          clear hS4 hR8
          obtain ⟨m, hm, rfl, hS5, hR8⟩ := hrel
          by_cases hm8 : m < 8
          · obtain ⟨hc5, hf5⟩ := hS5.cell (i := m) (by omega)
            obtain ⟨hc8, hf8⟩ := Kd.R_celln false hR8 (m : Int) (by omega) (by omega)
            rw [rdOf, Int.toNat_natCast] at hc8
            clear hf8
            obtain ⟨x5, hx5⟩ : ∃ x, x = (xorTo (lb w (div w p t f (l.take k))) (cbits t b) m).getD m false := ⟨_, rfl⟩
            obtain ⟨x8, hx8⟩ : ∃ x, x = (cbits t b).getD m false := ⟨_, rfl⟩
            rw [← hx5] at hc5
            rw [← hx8] at hc8
            have hx : xorTo (lb w (div w p t f (l.take k))) (cbits t b) (m + 1) = (xorTo (lb w (div w p t f (l.take k))) (cbits t b) m).set m (!(x5 == x8)) := by rw [hx5, hx8]; rfl
            have HX := Lib.hid hx
            clear hx hx5 hx8
            have hmw : (m : Int) < (w : Int) := by omega
            go_wp2_with fail
            go_region
            go_wp2
            go_roundw
            case rel => exact ⟨m + 1, by omega, by go_num, by rw [HX.out]; exact (hS5.set m _).drew, Kd.R_below (far_set hR8 m _) (below_drew (Below.refl _ _))⟩
            case measure => simp [intOf]; omega
          · obtain rfl : m = 8 := by omega
            have hby := lbyte w p (div w p t f (l.take k)) b t hw1
            obtain ⟨r1, hr1⟩ : ∃ r1, r1 = xorTo (lb w (div w p t f (l.take k))) (cbits t b) 8 := ⟨_, rfl⟩
            rw [← hr1] at hS5 hby
            have HBY := Lib.hid hby
            clear hby hr1 hR8
            go_wp2_with fail
            go_loopw [5, 10] (Rel W W.heap.size (ks w p f t last) (.slice (some ⟨g2, 0, none⟩) w c2) (lb w p) w 8 (fun m => ldbls (lb w p) r1 m)) (fun _ j _ => 8 - (intOf j).toNat)
            case atStart => exact ⟨0, g5, c5, by omega, rfl, rfl, hS5⟩
            case round =>
              clear hS5
              obtain ⟨m, g, c', hm, rfl, rfl, hS6⟩ := hrel
              by_cases hm8 : m < 8
              · obtain ⟨hch, _⟩ := hS6.cell (i := 0) (by omega)
                obtain ⟨hi, hhi⟩ : ∃ x, x = (ldbls (lb w p) r1 m).getD 0 false := ⟨_, rfl⟩
                rw [← hhi] at hch
                have HHI := Lib.hid hhi
                clear hhi
                have hCd := C_tail hS6 (by omega)
                have hcap := hS6.cap
                have hinfo : (Try.prog.info? 4).map (fun i => (i.zero, i.size, i.bytes)) = some (some (.bool false), 1, 1) := by kernel_rfl
                have hlr := hS6.len
                have HLR := Lib.hid hlr
                clear hlr
                go_wp2_with (first
                  | ((with_reducible refine gate_dst (N := 62) rfl ?_); refine Kd.R_lit Kd.bool _ 4 ?hg (N := 62) ?hd (xs := ([] : List Bool)) (inner := []) (ok := fun _ => True) (okp := fun _ => True) ?hr ?hp (fun _ hk => hk) trivial (Below.refl _ _) (Nat.le_refl _) (by simp) ?_; (case hd => rfl); (case hg => rfl); (case hr => first | (go_simp; done) | (go_simp; rfl)); (case hp => exact Reps.none _ _); intro v62 w62 hR62 hb62 hg62 hn62; have hC62 := Kd.C_below hCd hb62)
                  | ((with_reducible refine gate_dst (N := 65) rfl ?_); refine Kd.R_append_row Value.bool false _ rfl (.tmp 62) (.tmp 64) 143 4 (.bool false) 1 rfl Try.underlying143 hinfo rfl (by decide) v62 [] ((ldbls (lb w p) r1 m).drop 1) _ _ _ (fun _ => True) rfl rfl (fun _ _ => trivial) hR62 hC62 hb62 hb62.size ?aZ ?_; (case aZ => simp; omega); intro v65 w65 hR65 hb65 hg65 hn65; rw [List.nil_append] at hR65)
                  | ((with_reducible refine gate_dst (N := 67) rfl ?_); refine Kd.R_append Kd.bool _ rfl (.tmp 65) (.tmp 66) 143 4 (.bool false) 1 rfl Try.underlying143 hinfo rfl (by decide) (by decide) v65 ((ldbls (lb w p) r1 m).drop 1) false [.bool false] (fun _ => True) (fun _ => False) rfl rfl ?aM (fun _ h => h.elim) (fun _ _ => trivial) hR65 hb65 hb65.size ?aZ ?_; (case aM => exact rfl); (case aZ => rw [List.length_drop, HLR.out]; omega); intro v67 w67 hR67 hb67 hg67 hn67; obtain ⟨g7, c7, e7, _⟩ := Kd.R_form hR67 (by simp); rw [List.length_append, List.length_drop, HLR.out, List.length_singleton, show w - 1 + 1 = w from by omega] at e7; subst e7; have hS7 := hS6.new hR67 hb67)
                  | fail)
                clear hch hCd hR62 hb62 hg62 hn62 hC62 hR65 hb65 hg65 hn65 hR67 hb67 hg67 hn67 hcap hS6
                obtain ⟨sl, hsl⟩ : ∃ sl, sl = (ldbls (lb w p) r1 m).drop 1 ++ [false] := ⟨_, rfl⟩
                rw [← hsl] at hS7
                have hsll : sl.length = w := hS7.len
                have HSL := Lib.hid hsll
                have hld : ldbls (lb w p) r1 (m + 1) = if hi then xorTo sl (lb w p) w else sl := by
                  rw [ldbls, ldbl, ← HHI.out, ← hsl, hsll]
                have HLD := Lib.hid hld
                clear hsl hsll hld
                cases hi with
                | true =>
                  go_loopw [12] (fun j wr4 => ∃ i : Nat, i ≤ w ∧ j = .int .i64 (i : Int) ∧ St W wr4 W.heap.size (ks w p f t last) g7 w c7 (xorTo sl (lb w p) i) (.slice (some ⟨g2, 0, none⟩) w c2) (lb w p)) (fun j _ => w - (intOf j).toNat)
                  case atStart => exact ⟨0, by omega, rfl, hS7⟩
                  case round =>
                    clear hS7
                    obtain ⟨i, hiw, rfl, hS8⟩ := hrel
                    by_cases hii : i < w
                    · obtain ⟨hc5, hf5⟩ := hS8.cell (i := i) hii
                      obtain ⟨hc6, _⟩ := Kd.R_celln false hS8.R6 (i : Int) (by omega) (by omega)
                      rw [rdOf, Int.toNat_natCast] at hc6
                      obtain ⟨x5, hx5⟩ : ∃ x, x = (xorTo sl (lb w p) i).getD i false := ⟨_, rfl⟩
                      obtain ⟨x6, hx6⟩ : ∃ x, x = (lb w p).getD i false := ⟨_, rfl⟩
                      rw [← hx5] at hc5
                      rw [← hx6] at hc6
                      have hx : xorTo sl (lb w p) (i + 1) = (xorTo sl (lb w p) i).set i (!(x5 == x6)) := by rw [hx5, hx6]; rfl
                      have HX := Lib.hid hx
                      clear hx hx5 hx6
                      go_wp2_with fail
                      go_region
                      go_wp2
                      go_roundw
                      case rel => exact ⟨i + 1, by omega, by go_num, by rw [HX.out]; exact (hS8.set i _).drew⟩
                      case measure => simp [intOf]; omega
                    · have hiw2 : i = w := by omega
                      rw [hiw2] at hS8
                      have HIW := Lib.hid hiw2
                      clear hiw2
                      go_wp2
                      go_roundw
                      case rel => exact ⟨m + 1, g7, c7, by omega, by go_num, rfl, by show St _ _ _ _ _ _ _ (ldbls (lb w p) r1 (m + 1)) _ _; rw [HLD.out]; simp only [Bool.false_eq_true, ↓reduceIte]; exact hS8⟩
                      case measure => simp [intOf]; omega
                | false =>
                  go_loopw [12] (fun j wr4 => j = .int .i64 0 ∧ St W wr4 W.heap.size (ks w p f t last) g7 w c7 sl (.slice (some ⟨g2, 0, none⟩) w c2) (lb w p)) (fun _ _ => 0)
                  case atStart => exact ⟨rfl, hS7⟩
                  case round =>
                    clear hS7
                    obtain ⟨rfl, hS8⟩ := hrel
                    have hw0 : (0 : Int) < (w : Int) := by omega
                    go_wp2
                    go_roundw
                    case rel => (repeat apply Exists.intro); refine ⟨?_, rfl⟩; exact ⟨m + 1, g7, c7, by omega, by go_num, rfl, by show St _ _ _ _ _ _ _ (ldbls (lb w p) r1 (m + 1)) _ _; rw [HLD.out]; simp only [Bool.false_eq_true, ↓reduceIte]; exact hS8⟩
                    case measure => simp [intOf]; omega
              · obtain rfl : m = 8 := by omega
                have hlast : div w p t f (l.take (k + 1)) = byte w p t (div w p t f (l.take k)) b := by
                  rw [HB.out, List.take_succ_eq_append_getElem hkl, div_append]; rfl
                have HLA := Lib.hid hlast
                clear hlast
                go_wp2
                go_roundw
                case rel => exact ⟨k + 1, g, c', by omega, by go_num, rfl, by show St _ _ _ _ _ _ _ (lb w (div w p t f (l.take (k + 1)))) _ _; rw [HLA.out, ← HBY.out]; exact hS6⟩
                case measure => simp [intOf]; omega
    · obtain rfl : k = n := by omega
      have hall : l.take k = l := List.take_of_length_le (by rw [Hn.out]; omega)
      have hS' : St W wr W.heap.size (ks w p f t last) g5 w c5 (lb w (div w p t f (l.take k))) (.slice (some ⟨g2, 0, none⟩) w c2) (lb w p) := hS
      rw [hall] at hS'
      clear hall hS
      obtain ⟨k0, k1, k2, k3, k4⟩ := ks_get _ _ _ _ _ hS'.bk
      have hd : div w p t f l < 2 ^ w := div_lt hw1 hp t hf hl
      have h32 : (2 : Nat) ^ w ≤ 4294967296 := Nat.pow_le_pow_right (by omega) hw2
      clear k0 k1 k2
      cases t with
      | false =>
        have hx : bits .xor .u32 ((num (lb w (div w p false f l)) : Nat) : Int) (last : Int) = ((CrcPlain.sum w p f false last l : Nat) : Int) := by
          rw [num_lb, Nat.mod_eq_of_lt hd, Go.u32_xor_nat _ _ (by omega) hl4]; rfl
        clear hd h32
        go_wp2_with fail
        go_quiet ((go_at_call 90; exact Calls.quiet_of_same ((number_calls (lb w (div w p false f l)) (by rw [lb_length]; exact hw2) (some ⟨g5, 0, none⟩) w c5 _ (lb_length _ _) (Kd.C_drewN hS'.read _)).mono (fun _ _ h => ⟨h.1, h.2.symm⟩))))
        go_wp2
        go_ret
        exact ⟨rfl, pw_below_drewN hS'.be _⟩
      | true =>
        have ht := turn_lt w (div w p true f l)
        have hx : bits .xor .u32 ((num (lb w (div w p true f l)).reverse : Nat) : Int) (last : Int) = ((CrcPlain.sum w p f true last l : Nat) : Int) := by
          show bits .xor .u32 ((turn w (div w p true f l) : Nat) : Int) (last : Int) = _
          rw [Go.u32_xor_nat _ _ (by omega) hl4]; rfl
        clear hd h32 ht
        go_wp2_with fail
        refine (turnedC (lb w (div w p true f l)) w (lb_length _ _) (by omega) (by omega) (some ⟨g5, 0, none⟩) c5 _ hS'.cap hS'.read).mono ?_
        rintro e w5 ⟨g9, c9, rfl, hR9, hb9⟩
        have hC9 := (Kd.R_reads' hR9).2.2
        rw [List.length_reverse, lb_length] at hC9
        have k4' := (ks_get _ _ _ _ _ (blk_below hS'.bk hb9)).2.2.2.2
        have hB9 := bthen hS'.be hb9
        clear hR9 hb9 k3 k4 hS'
        go_wp2_with fail
        go_quiet ((go_at_call 90; exact Calls.quiet_of_same ((number_calls (lb w (div w p true f l)).reverse (by rw [List.length_reverse, lb_length]; exact hw2) (some ⟨g9, 0, none⟩) w c9 _ (by rw [List.length_reverse, lb_length]) (Kd.C_drewN hC9 _)).mono (fun _ _ h => ⟨h.1, h.2.symm⟩))))
        go_wp2
        go_ret
        exact ⟨rfl, pw_below_drewN hB9 _⟩
end Go.Proofs.Ytcldlfhnmkogeaa.CrcRefSum
