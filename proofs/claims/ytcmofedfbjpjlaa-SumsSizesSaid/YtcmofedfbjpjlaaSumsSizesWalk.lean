import Derived.Test.YtcmofedfbjpjlaaSumsLast
/- The law SumsSizes, walked. -/
set_option linter.unusedVariables false
set_option linter.unusedSimpArgs false
namespace Go.Proofs.Ytcmofedfbjpjlaa.SumsSizesWalk
open Go.RowKit Go.Proofs.YtcmofedfbjpjlaaW.PrintWords Go.Proofs.YtcmofedfbjpjlaaW.PrintLast Go.Proofs.Ytcmofedfbjpjlaa.Nats Go.Proofs.Ytcmofedfbjpjlaa.HeapKit Go.Proofs.Ytcmofedfbjpjlaa.CrcCalls Go.Proofs.Ytcmofedfbjpjlaa.Sums

/-- What stays. -/
structure Sz (w wx : World) (A B : Option Addr) (n m base g c7 : Nat) (l t : List Nat) : Prop where
  b : Below w.heap.size w wx
  c1 : Kd.C (Kd.int .u8) wx A n (ints l)
  c2 : Kd.C (Kd.int .u8) wx B m (ints t)
  r : Kd.R Kd.string 9 wx base (fun _ => True) (.slice (some ⟨g, 0, none⟩) 9 c7) nine
theorem Sz.step {w wx w2 : World} {A B : Option Addr} {n m base g c7 : Nat} {l t : List Nat} (h : Sz w wx A B n m base g c7 l t) (hb : Below wx.heap.size wx w2) : Sz w w2 A B n m base g c7 l t :=
  ⟨bthen h.b hb, Kd.C_below h.c1 hb, Kd.C_below h.c2 hb, Kd.R_below h.r hb⟩
def Rel1 (w : World) (A B : Option Addr) (n m base g c7 : Nat) (l t : List Nat) (s8 : Value) (wr : World) : Prop := ∃ i : Nat, i ≤ 9 ∧ s8 = .int .i64 (i : Int) ∧ Sz w wr A B n m base g c7 l t
def Rel2 (w : World) (A B : Option Addr) (n m base g c7 : Nat) (l t : List Nat) (i : Nat) (s9 : Value) (wr : World) : Prop := ∃ k : Nat, k ≤ i ∧ s9 = .int .i64 (k : Int) ∧ Sz w wr A B n m base g c7 l t
set_option maxRecDepth 100000 in
set_option maxHeartbeats 8000000 in
theorem walk (v0 : Nat) (h0 : v0 < 256) {l t : List Nat} {A B : Option Addr} {n c m d : Nat} (hn : l.length = n) (hl : ∀ x ∈ l, x < 256) (hc : n ≤ c) (hn2 : t.length = m) (hl2 : ∀ x ∈ t, x < 256) (hd : m ≤ d) (w : World) (hC : Kd.C (Kd.int .u8) w A n (ints l)) (hD : Kd.C (Kd.int .u8) w B m (ints t)) :
    Calls Try.prog 13 #[.int .u8 (v0 : Int), .slice A n c, .slice B m d] w fun e w' => e = .returned (.bool true) ∧ Below w.heap.size w w' := by
  have Hn := Lib.hid hn
  have Hm := Lib.hid hn2
  clear hn hn2
  go_enter Try.func13, Try.ntmps13
  go_wp2_with fail
  refine (awake05 _).mono ?_
  rintro e w1 ⟨rfl, hB⟩
  replace hC := Kd.C_below hC hB
  replace hD := Kd.C_below hD hB
  by_cases q0 : (n : Int) > 200
  · have t0 : decide ((n : Int) > 200) = true := decide_eq_true q0
    go_wp2_with fail
    refine (awake05 _).mono ?_
    rintro e w9 ⟨rfl, hb9⟩
    go_wp2_with fail
    go_ret
    exact ⟨rfl, bthen hB hb9⟩
  have t0 : decide ((n : Int) > 200) = false := decide_eq_false q0
  by_cases q1 : (m : Int) > 200
  · have t1 : decide ((m : Int) > 200) = true := decide_eq_true q1
    go_wp2_with fail
    refine (awake05 _).mono ?_
    rintro e w9 ⟨rfl, hb9⟩
    go_wp2_with fail
    go_ret
    exact ⟨rfl, bthen hB hb9⟩
  have t1 : decide ((m : Int) > 200) = false := decide_eq_false q1
  have hn200 : n ≤ 200 := by omega
  have hm200 : m ≤ 200 := by omega
  clear q0 q1
  go_wp2_with fail
  clear t0 t1
  refine (names_calls _).mono ?_
  rintro e w2 ⟨v7, rfl, hR, hb⟩
  obtain ⟨g, c7, rfl⟩ := nine_form hR
  have hS : Sz w w2 A B n m w1.heap.size g c7 l t := ⟨bthen hB hb, Kd.C_below hC hb, Kd.C_below hD hb, hR⟩
  clear hB hb hC hD hR
  obtain ⟨base, hbase⟩ : ∃ b, b = w1.heap.size := ⟨_, rfl⟩
  rw [← hbase] at hS
  clear hbase
  go_wp2_with fail
  go_loopw [8] (Rel1 w A B n m base g c7 l t) (fun i _ => 9 - (intOf i).toNat)
  case atStart => exact ⟨0, Nat.zero_le _, rfl, hS⟩
  case round =>
    obtain ⟨i, hi, rfl, hS2⟩ := hrel
    by_cases hlt : i < 9
    · go_wp2_with fail
      go_loopw [9] (Rel2 w A B n m base g c7 l t i) (fun k _ => i - (intOf k).toNat)
      case atStart => exact ⟨0, Nat.zero_le _, rfl, hS2⟩
      case round =>
        obtain ⟨k, hk, rfl, hS3⟩ := hrel
        by_cases hlt2 : k < i
        · have hxy := nine_apart i hlt k hlt2
          obtain ⟨x, hx⟩ : ∃ x, nine.getD i ByteArray.empty = x := ⟨_, rfl⟩
          obtain ⟨y, hy⟩ : ∃ x, nine.getD k ByteArray.empty = x := ⟨_, rfl⟩
          rw [hx, hy] at hxy
          have cx : ∀ wx, Sz w wx A B n m base g c7 l t → wx.cell? ⟨g, i, none⟩ = some (.string x) := fun wx h => by rw [nine_cell h.r i hlt, hx]
          have cy : ∀ wx, Sz w wx A B n m base g c7 l t → wx.cell? ⟨g, k, none⟩ = some (.string y) := fun wx h => by rw [nine_cell h.r k (by omega), hy]
          have CX := Lib.hid cx
          have CY := Lib.hid cy
          clear cx cy hx hy
          have g1 : decide ((k : Int) < (i : Int)) = true := by simp; omega
          have bi0 : (0 : Int) ≤ (i : Int) := by omega
          have bi : (i : Int) < 9 := by omega
          have bk0 : (0 : Int) ≤ (k : Int) := by omega
          have bk : (k : Int) < 9 := by omega
          have bkn : k < 9 := by omega
          go_wp2_with fail
          refine start_ (n := 9) (S := fun wx => Sz w wx A B n m base g c7 l t) (ds := []) #[false, false, false, false, false, false, false, false, false] (by kernel_rfl) rfl rfl (hS3.step (below_drew (Below.refl _ _))) (fun hHeld => ?_)
          refine pure_ (i := 0) (N := some 47) (v := ?_) (a' := ?_) #[true, false, false, false, false, false, false, false, false] rfl rfl (by kernel_rfl) (fun _ _ _ h => h) (Or.inl ⟨by rfl, ?_⟩) ?_ ?_
          rotate_left
          · intro w'
            go_simp
            try with_reducible rfl
          rotate_left
          · simp only [Act.put, List.setIfInBounds_toArray, List.set_cons_zero, List.set_cons_succ, i64_w, i32_w]
            rfl
          refine pure_ (i := 1) (N := some 48) (v := ?_) (a' := ?_) #[true, true, false, false, false, false, false, false, false] rfl rfl (by kernel_rfl) (fun _ _ _ h => h) (Or.inl ⟨by rfl, ?_⟩) ?_ ?_
          rotate_left
          · intro w'
            go_simp
            try with_reducible rfl
          rotate_left
          · simp only [Act.put, List.setIfInBounds_toArray, List.set_cons_zero, List.set_cons_succ, i64_w, i32_w]
            rfl
          refine pure_ (i := 2) (N := some 49) (v := ?_) (a' := ?_) #[true, true, true, false, false, false, false, false, false] rfl rfl (by kernel_rfl) (fun _ _ _ h => h) (Or.inl ⟨by rfl, ?_⟩) ?_ ?_
          rotate_left
          · intro w'
            go_simp
            try with_reducible rfl
          rotate_left
          · simp only [Act.put, List.setIfInBounds_toArray, List.set_cons_zero, List.set_cons_succ, i64_w, i32_w]
            rfl
          refine take_ (i := 3) (N := some 50) (v := ?_) (a' := ?_) #[true, true, true, true, false, false, false, false, false] rfl rfl (by kernel_rfl) (fun _ _ _ h => h) (Or.inl ⟨by rfl, ?_⟩) hHeld ?_ ?_
          rotate_left
          · rintro w' hh
            have ci := CX.out _ hh
            have ck := CY.out _ hh
            go_simp
            with_reducible rfl
          rotate_left
          · simp only [Act.put, List.setIfInBounds_toArray, List.set_cons_zero, List.set_cons_succ, i64_w, i32_w]
            rfl
          refine pure_ (i := 4) (N := some 51) (v := ?_) (a' := ?_) #[true, true, true, true, true, false, false, false, false] rfl rfl (by kernel_rfl) (fun _ _ _ h => h) (Or.inl ⟨by rfl, ?_⟩) ?_ ?_
          rotate_left
          · intro w'
            go_simp
            try with_reducible rfl
          rotate_left
          · simp only [Act.put, List.setIfInBounds_toArray, List.set_cons_zero, List.set_cons_succ, i64_w, i32_w]
            rfl
          refine pure_ (i := 5) (N := some 52) (v := ?_) (a' := ?_) #[true, true, true, true, true, true, false, false, false] rfl rfl (by kernel_rfl) (fun _ _ _ h => h) (Or.inl ⟨by rfl, ?_⟩) ?_ ?_
          rotate_left
          · intro w'
            go_simp
            try with_reducible rfl
          rotate_left
          · simp only [Act.put, List.setIfInBounds_toArray, List.set_cons_zero, List.set_cons_succ, i64_w, i32_w]
            rfl
          refine pure_ (i := 6) (N := some 53) (v := ?_) (a' := ?_) #[true, true, true, true, true, true, true, false, false] rfl rfl (by kernel_rfl) (fun _ _ _ h => h) (Or.inl ⟨by rfl, ?_⟩) ?_ ?_
          rotate_left
          · intro w'
            go_simp
            try with_reducible rfl
          rotate_left
          · simp only [Act.put, List.setIfInBounds_toArray, List.set_cons_zero, List.set_cons_succ, i64_w, i32_w]
            rfl
          refine take_ (i := 7) (N := some 54) (v := ?_) (a' := ?_) #[true, true, true, true, true, true, true, true, false] rfl rfl (by kernel_rfl) (fun _ _ _ h => h) (Or.inl ⟨by rfl, ?_⟩) hHeld ?_ ?_
          rotate_left
          · rintro w' hh
            have ci := CX.out _ hh
            have ck := CY.out _ hh
            go_simp
            with_reducible rfl
          rotate_left
          · simp only [Act.put, List.setIfInBounds_toArray, List.set_cons_zero, List.set_cons_succ, i64_w, i32_w]
            rfl
          refine pure_ (i := 8) (N := some 55) (v := ?_) (a' := ?_) #[true, true, true, true, true, true, true, true, true] rfl rfl (by kernel_rfl) (fun _ _ _ h => h) (Or.inl ⟨by rfl, ?_⟩) ?_ ?_
          rotate_left
          · intro w'
            go_simp
            try with_reducible rfl
          rotate_left
          · simp only [Act.put, List.setIfInBounds_toArray, List.set_cons_zero, List.set_cons_succ, i64_w, i32_w]
            rfl
          refine done_ (by kernel_rfl) ?_
          clear hS3 hS2 hS
          go_wp2_with fail
          refine ⟨⟨k + 1, by omega, by simp, hHeld⟩, ?_⟩
          simp [intOf] <;> omega
        · obtain rfl : k = i := by omega
          go_wp2_with fail
          refine ⟨⟨k + 1, by omega, by simp, hS3⟩, ?_⟩
          simp [intOf] <;> omega
    · obtain rfl : i = 9 := by omega
      clear hS
      obtain ⟨j, hj⟩ : ∃ j, v0 % 9 = j := ⟨_, rfl⟩
      have hj9 : j < 9 := by omega
      have e0 : (v0 : Int) % 9 = (j : Int) := by omega
      have e1 : (v0 : Int).tmod 9 = (j : Int) := by rw [Int.tmod_eq_emod_of_nonneg (by omega)]; omega
      have e2 : (j : Int) % 256 = (j : Int) := by omega
      obtain ⟨N, F, hkind, hN4⟩ := nine_kind j hj9
      have hcj := nine_cell hS2.r j hj9
      obtain ⟨s, hs⟩ : ∃ x, nine.getD j ByteArray.empty = x := ⟨_, rfl⟩
      rw [hs] at hkind hcj
      have hsz := fun w => size_calls s w
      have href := fun w => refof_calls s (l := []) (by simp) (A := none) (n := 0) (c := 0) rfl (by decide) (Nat.le_refl 0) w (C_nil w)
      have hof1 := fun w (hC : Kd.C (Kd.int .u8) w A n (ints l)) => of_calls s hl Hn.out (by omega) hc w hC
      have hof2 := fun w (hC : Kd.C (Kd.int .u8) w B m (ints t)) => of_calls s hl2 Hm.out (by omega) hd w hC
      simp only [hkind, kindSize, Option.isSome_some] at hsz href hof1 hof2
      have HSZ := Lib.hid hsz
      have HRF := Lib.hid href
      have H1 := Lib.hid hof1
      have H2 := Lib.hid hof2
      clear hsz href hof1 hof2 hs hj hkind
      go_wp2_with fail
      refine (HRF.out _).mono ?_
      rintro e w3 ⟨v11, ok, rfl, ⟨rfl, _⟩, hb⟩
      replace hS2 := hS2.step hb
      clear hb hcj
      go_wp2_with fail
      refine (H1.out _ hS2.c1).mono ?_
      rintro e w4 ⟨v13, k13, rfl, ⟨rfl, hR13⟩, hb⟩
      obtain ⟨A13, c13, rfl⟩ := Kd.R_slice hR13
      replace hS2 := hS2.step hb
      rw [ints_length, endB_length]
      clear hb hR13
      go_wp2_with fail
      refine (H2.out _ hS2.c2).mono ?_
      rintro e w5 ⟨v15, k15, rfl, ⟨rfl, hR15⟩, hb⟩
      obtain ⟨A15, c15, rfl⟩ := Kd.R_slice hR15
      replace hS2 := hS2.step hb
      rw [ints_length, endB_length]
      clear hb hR15
      go_wp2_with fail
      refine (HSZ.out _).mono ?_
      rintro e w6 ⟨rfl, hb⟩
      replace hS2 := hS2.step hb
      have g1 : decide ((N : Int) ≥ 0) = true := by simp
      have g2 : decide ((N : Int) ≤ 4) = true := by simp; omega
      have hkk : ((N : Int) == (N : Int)) = true := by simp
      dsimp only
      go_wp2_with fail
      go_ret
      exact ⟨rfl, hS2.b⟩
theorem row (a0 : Int) (w0 : (Lit.int .u8 a0).wf = true) {l t : List Nat} {A B : Option Addr} {n c m d : Nat} (hn : l.length = n) (hl : ∀ x ∈ l, x < 256) (hc : n ≤ c) (hn2 : t.length = m) (hl2 : ∀ x ∈ t, x < 256) (hd : m ≤ d) (w : World) (hC : Kd.C (Kd.int .u8) w A n (ints l)) (hD : Kd.C (Kd.int .u8) w B m (ints t)) :
    Calls Try.prog 13 #[.int .u8 a0, .slice A n c, .slice B m d] w fun e w' => e = .returned (.bool true) ∧ Below w.heap.size w w' := by
  have w0 := bounds_u8 w0
  obtain ⟨v0, rfl⟩ := Int.eq_ofNat_of_zero_le w0.1
  exact walk v0 (by omega) hn hl hc hn2 hl2 hd w hC hD
end Go.Proofs.Ytcmofedfbjpjlaa.SumsSizesWalk
