import Derived.Test.YtcmofedfbjpjlaaSumsAwake
import Derived.BigRegion
/- The law SumsZero, walked. -/
set_option linter.unusedVariables false
set_option linter.unusedSimpArgs false
namespace Go.Proofs.Ytcmofedfbjpjlaa.SumsZeroWalk
open Go.RowKit Go.Proofs.YtcmofedfbjpjlaaW.PrintWords Go.Proofs.YtcmofedfbjpjlaaW.PrintLast Go.Proofs.Ytcmofedfbjpjlaa.Nats Go.Proofs.Ytcmofedfbjpjlaa.HeapKit Go.Proofs.Ytcmofedfbjpjlaa.CrcCalls Go.Proofs.Ytcmofedfbjpjlaa.Sums

theorem ints_app (a b : List Nat) : ints a ++ ints b = ints (a ++ b) := by simp [ints]
theorem end_one (v : Nat) : endB 1 v = [v % 256] := by simp [endB]
theorem mix_lt : ∀ (l : List Nat) (s : Nat), (∀ x ∈ l, x < 256) → s < 256 → l.foldl (fun x c => x ^^^ c) s < 256
  | [], s, _, h => h
  | c :: l, s, hl, h => mix_lt l _ (fun x hx => hl x (.tail _ hx)) (Nat.xor_lt_two_pow (n := 8) h (hl c (.head _)))
theorem zero_sum (l : List Nat) : endB 1 (sumS (l ++ endB 1 (negS l))) = [0] := by
  rw [end_one, end_one]
  have h := sumS_lt l
  have e : sumS (l ++ [negS l % 256]) = (sumS l + negS l % 256) % 4294967296 := by
    unfold sumS
    rw [List.foldl_append]
    rfl
  rw [e]
  unfold negS
  congr 1
  omega
theorem zero_mix (l : List Nat) (hl : ∀ x ∈ l, x < 256) : endB 1 (mixS (l ++ endB 1 (mixS l))) = [0] := by
  rw [end_one, end_one]
  have h : mixS l < 256 := mix_lt l 0 hl (by decide)
  have e : mixS (l ++ [mixS l % 256]) = mixS l ^^^ (mixS l % 256) := by
    unfold mixS
    rw [List.foldl_append]
    rfl
  rw [e, Nat.mod_eq_of_lt h, Nat.xor_self]
theorem small {l : List Nat} (hl : ∀ x ∈ l, x < 256) (v : Nat) : ∀ x ∈ l ++ endB 1 v, x < 256 := by
  intro x hx
  rcases List.mem_append.1 hx with h | h
  · exact hl x h
  · rw [end_one] at h
    rw [List.mem_singleton.1 h]
    exact Nat.mod_lt _ (by decide)

set_option maxRecDepth 100000 in
set_option maxHeartbeats 4000000 in
theorem walk {l : List Nat} {A : Option Addr} {n c : Nat} (hn : l.length = n) (hl : ∀ x ∈ l, x < 256) (hc : n ≤ c) (w : World) (hC : Kd.C (Kd.int .u8) w A n (ints l)) :
    Calls Try.prog 12 #[.slice A n c] w fun e w' => e = .returned (.bool true) ∧ Below w.heap.size w w' := by
  have hinfo := info_u8
  go_enter Try.func12, Try.ntmps12
  go_wp2_with fail
  refine (awake05 _).mono ?_
  rintro e w1 ⟨rfl, hB⟩
  replace hC := Kd.C_below hC hB
  by_cases q : (n : Int) > 200
  · have t0 : decide ((n : Int) > 200) = true := decide_eq_true q
    go_wp2_with fail
    refine (awake05 _).mono ?_
    rintro e w2 ⟨rfl, hb⟩
    go_wp2_with fail
    go_ret
    exact ⟨rfl, bthen hB hb⟩
  have t0 : decide ((n : Int) > 200) = false := decide_eq_false q
  have hn200 : n ≤ 200 := by omega
  have Hn := Lib.hid hn
  clear hn
  go_wp2_with fail
  refine (of2 hl Hn.out (by omega) hc _ hC).mono ?_
  rintro e w2 ⟨v3, rfl, hR3, hb⟩
  obtain ⟨g3, c3, rfl, hc3, hg3, hC3, _⟩ := list_form hR3 (by rw [endB_length]; decide)
  rw [endB_length] at hc3 hC3
  simp only [endB_length]
  replace hC := Kd.C_below hC hb
  replace hB := bthen hB hb
  clear hb hR3
  go_wp2_with fail
  refine (of3 hl Hn.out (by omega) hc _ hC).mono ?_
  rintro e w3 ⟨v5, rfl, hR5, hb⟩
  obtain ⟨g5, c5, rfl, hc5, hg5, hC5, _⟩ := list_form hR5 (by rw [endB_length]; decide)
  rw [endB_length] at hc5 hC5
  simp only [endB_length]
  replace hC := Kd.C_below hC hb
  replace hC3 := Kd.C_below hC3 hb
  replace hB := bthen hB hb
  clear hb hR5
  go_wp2_with (first
    | ((with_reducible refine gate_dst (N := 30) rfl ?_); refine Kd.R_lit (Kd.int .u8) _ 5 ?hg (N := 30) ?hd (xs := ([] : List Int)) (inner := []) (ok := fun _ => True) (okp := fun _ => True) ?hr ?hp (fun _ hk => hk) trivial (Below.refl _ _) (Nat.le_refl _) (by simp) ?_; (case hd => rfl); (case hg => rfl); (case hr => first | (go_simp; done) | (go_simp; rfl)); (case hp => exact Reps.none _ _); intro va wa hRa hba hga hna; have hCa := Kd.C_below hC hba)
    | ((with_reducible refine gate_dst (N := 32) rfl ?_); refine Kd.R_append_row (Value.int .u8) 0 _ rfl (.tmp 30) (.tmp 31) 54 5 (.int .u8 0) 1 rfl Try.underlying54 hinfo rfl (by decide) va [] (ints l) _ _ _ (fun _ => True) rfl rfl (fun _ _ => trivial) hRa hCa hba hba.size ?aZ ?_; (case aZ => simp; omega); intro vb wb hRb hbb hgb hnb; rw [List.nil_append] at hRb; have hSb := Kd.C_below hC3 hbb)
    | ((with_reducible refine gate_dst (N := 34) rfl ?_); refine Kd.R_append_row (Value.int .u8) 0 _ rfl (.tmp 32) (.tmp 33) 54 5 (.int .u8 0) 1 rfl Try.underlying54 hinfo rfl (by decide) vb (ints l) (ints (endB 1 (negS l))) _ _ _ (fun _ => True) rfl rfl (fun _ _ => trivial) hRb hSb hbb hbb.size ?aZ ?_; (case aZ => rw [ints_length, Hn.out]; omega); intro vc wc hRc hbc hgc hnc; rw [ints_app] at hRc)
    | fail)
  obtain ⟨gc, cc, rfl, hcc, hgc2, hCc, _⟩ := list_form hRc (by rw [List.length_append, endB_length]; omega)
  clear hRa hRb hRc hCa hSb hba hbb hga hgb hgc hna hnb hnc
  replace hC := Kd.C_below hC hbc
  replace hB := bthen hB hbc
  replace hC5 := Kd.C_below hC5 hbc
  clear hbc
  refine (of1 (l := l ++ endB 1 (negS l)) (small hl _) rfl (by rw [List.length_append, endB_length, Hn.out]; omega) hcc _ hCc).mono ?_
  rintro e w4 ⟨v7, rfl, hR7, hb⟩
  clear hCc hcc hgc2
  replace hC := Kd.C_below hC hb
  replace hB := bthen hB hb
  replace hC5 := Kd.C_below hC5 hb
  clear hb hC3
  rw [zero_sum] at hR7
  obtain ⟨g7, c7, rfl, hc7, hg7, hC7, hcell7⟩ := list_form hR7 (by decide)
  have k7 : w4.cell? ⟨g7, 0, none⟩ = some (.int .u8 0) := hcell7 0 (by decide)
  simp only [List.length_cons, List.length_nil, Nat.reduceAdd] at hC7 ⊢
  clear hcell7 k7
  go_wp2_with (first
    | ((with_reducible refine gate_dst (N := 39) rfl ?_); refine Kd.R_lit (Kd.int .u8) _ 5 ?hg (N := 39) ?hd (xs := ([] : List Int)) (inner := []) (ok := fun _ => True) (okp := fun _ => True) ?hr ?hp (fun _ hk => hk) trivial (Below.refl _ _) (Nat.le_refl _) (by simp) ?_; (case hd => rfl); (case hg => rfl); (case hr => first | (go_simp; done) | (go_simp; rfl)); (case hp => exact Reps.none _ _); intro va wa hRa hba hga hna; have hCa := Kd.C_below hC hba)
    | ((with_reducible refine gate_dst (N := 41) rfl ?_); refine Kd.R_append_row (Value.int .u8) 0 _ rfl (.tmp 39) (.tmp 40) 54 5 (.int .u8 0) 1 rfl Try.underlying54 hinfo rfl (by decide) va [] (ints l) _ _ _ (fun _ => True) rfl rfl (fun _ _ => trivial) hRa hCa hba hba.size ?aZ ?_; (case aZ => simp; omega); intro vb wb hRb hbb hgb hnb; rw [List.nil_append] at hRb; have hSb := Kd.C_below hC5 hbb)
    | ((with_reducible refine gate_dst (N := 43) rfl ?_); refine Kd.R_append_row (Value.int .u8) 0 _ rfl (.tmp 41) (.tmp 42) 54 5 (.int .u8 0) 1 rfl Try.underlying54 hinfo rfl (by decide) vb (ints l) (ints (endB 1 (mixS l))) _ _ _ (fun _ => True) rfl rfl (fun _ _ => trivial) hRb hSb hbb hbb.size ?aZ ?_; (case aZ => rw [ints_length, Hn.out]; omega); intro vc wc hRc hbc hgc hnc; rw [ints_app] at hRc)
    | fail)
  obtain ⟨gc, cc, rfl, hcc, hgc2, hCc, _⟩ := list_form hRc (by rw [List.length_append, endB_length]; omega)
  clear hRa hRb hRc hCa hSb hba hbb hga hgb hgc hna hnb hnc
  replace hC := Kd.C_below hC hbc
  replace hB := bthen hB hbc
  have hR7b := Kd.R_below hR7 hbc
  clear hbc
  refine (of3 (l := l ++ endB 1 (mixS l)) (small hl _) rfl (by rw [List.length_append, endB_length, Hn.out]; omega) hcc _ hCc).mono ?_
  rintro e w5 ⟨v9, rfl, hR9, hb⟩
  clear hCc hcc hgc2
  replace hC := Kd.C_below hC hb
  replace hB := bthen hB hb
  have hR7c := Kd.R_below hR7b hb
  clear hb hC hC5 hR7 hR7b
  rw [zero_mix l hl] at hR9
  obtain ⟨g9, c9, rfl, hc9, hg9, hC9, hcell9⟩ := list_form hR9 (by decide)
  have k9 : w5.cell? ⟨g9, 0, none⟩ = some (.int .u8 0) := hcell9 0 (by decide)
  have k7 : w5.cell? ⟨g7, 0, none⟩ = some (.int .u8 0) := (Kd.R_celln 0 hR7c 0 (by decide) (by decide)).1
  simp only [List.length_cons, List.length_nil, Nat.reduceAdd]
  clear hcell9 hR9 hC9 hR7c hC7 hinfo
  go_wp2_with fail
  go_ret
  exact ⟨rfl, hB⟩
end Go.Proofs.Ytcmofedfbjpjlaa.SumsZeroWalk
