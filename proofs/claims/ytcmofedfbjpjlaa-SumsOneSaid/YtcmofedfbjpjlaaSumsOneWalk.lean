import Derived.Test.YtcmofedfbjpjlaaSumsLast
/- The law SumsOne, walked. -/
set_option linter.unusedVariables false
set_option linter.unusedSimpArgs false
namespace Go.Proofs.Ytcmofedfbjpjlaa.SumsOneWalk
open Go.RowKit Go.Proofs.YtcmofedfbjpjlaaW.PrintWords Go.Proofs.YtcmofedfbjpjlaaW.PrintLast Go.Proofs.Ytcmofedfbjpjlaa.Nats Go.Proofs.Ytcmofedfbjpjlaa.HeapKit Go.Proofs.Ytcmofedfbjpjlaa.CrcCalls Go.Proofs.Ytcmofedfbjpjlaa.Sums

theorem split_at (l : List Nat) (k : Nat) (hk : k < l.length) : l = l.take k ++ l[k] :: l.drop (k + 1) := by
  rw [← List.drop_eq_getElem_cons hk, List.take_append_drop]
theorem set_at (l : List Nat) (k y : Nat) (hk : k < l.length) : l.set k y = l.take k ++ y :: l.drop (k + 1) := by
  rw [List.set_eq_take_append_cons_drop, if_pos hk]
set_option maxRecDepth 100000 in
set_option maxHeartbeats 8000000 in
theorem walk (v0 v2 v3 : Nat) (h0 : v0 < 256) (h2 : v2 < 65536) (h3 : v3 < 256) {l : List Nat} {A : Option Addr} {n c : Nat} (hn : l.length = n) (hl : ∀ x ∈ l, x < 256) (hc : n ≤ c) (w : World) (hC : Kd.C (Kd.int .u8) w A n (ints l)) :
    Calls Try.prog 14 #[.int .u8 (v0 : Int), .slice A n c, .int .u16 (v2 : Int), .int .u8 (v3 : Int)] w fun e w' => e = .returned (.bool true) ∧ Below w.heap.size w w' := by
  have hinfo := info_u8
  have Hn := Lib.hid hn
  clear hn
  go_enter Try.func14, Try.ntmps14
  go_wp2_with fail
  refine (awake05 _).mono ?_
  rintro e w1 ⟨rfl, hB⟩
  replace hC := Kd.C_below hC hB
  by_cases q0 : (n : Int) > 200
  · have t0 : decide ((n : Int) > 200) = true := decide_eq_true q0
    go_wp2_with fail
    refine (awake05 _).mono ?_
    rintro e w9 ⟨rfl, hb9⟩
    go_wp2_with fail
    go_ret
    exact ⟨rfl, bthen hB hb9⟩
  have t0 : decide ((n : Int) > 200) = false := decide_eq_false q0
  by_cases q1 : n = 0
  · have t1 : ((n : Int) == 0) = true := by simp [q1]
    clear q1
    go_wp2_with fail
    refine (awake05 _).mono ?_
    rintro e w9 ⟨rfl, hb9⟩
    go_wp2_with fail
    go_ret
    exact ⟨rfl, bthen hB hb9⟩
  have t1 : ((n : Int) == 0) = false := by simp [q1]
  have hn200 : n ≤ 200 := by omega
  have hn0 : 0 < n := by omega
  clear q0 q1
  go_wp2_with fail
  clear t0
  refine (names_calls _).mono ?_
  rintro e w2 ⟨v7, rfl, hR, hb⟩
  obtain ⟨g, c7, rfl⟩ := nine_form hR
  obtain ⟨j, hj⟩ : ∃ j, v0 % 9 = j := ⟨_, rfl⟩
  have hj9 : j < 9 := by omega
  have e0 : (v0 : Int) % 9 = (j : Int) := by omega
  have e1 : (v0 : Int).tmod 9 = (j : Int) := by rw [Int.tmod_eq_emod_of_nonneg (by omega)]; omega
  have e2 : (j : Int) % 256 = (j : Int) := by omega
  have hcj := nine_cell hR j hj9
  obtain ⟨N, F, hkind, hN4⟩ := nine_kind j hj9
  obtain ⟨s, hs⟩ : ∃ x, nine.getD j ByteArray.empty = x := ⟨_, rfl⟩
  rw [hs] at hcj hkind
  replace hC := Kd.C_below hC hb
  replace hB := bthen hB hb
  obtain ⟨kk, hkk⟩ : ∃ k, v2 % n = k := ⟨_, rfl⟩
  have hkn : kk < n := by rw [← hkk]; exact Nat.mod_lt _ hn0
  have f1 : (v2 : Int) % (n : Int) = (kk : Int) := by rw [← hkk]; simp
  have f2 : (v2 : Int).tmod (n : Int) = (kk : Int) := by rw [Int.tmod_eq_emod_of_nonneg (by omega), f1]
  have hkl : kk < l.length := by rw [Hn.out]; exact hkn
  obtain ⟨z, hz⟩ : ∃ z, z = l[kk] := ⟨_, rfl⟩
  have hz256 : z < 256 := by rw [hz]; exact hl _ (List.getElem_mem hkl)
  have hsp := split_at l kk hkl
  have hst := set_at l kk v3 hkl
  rw [← hz] at hsp
  have hlk : ∀ x ∈ l.set kk v3, x < 256 := fun x hx => by
    rcases List.mem_or_eq_of_mem_set hx with h | h
    · exact hl x h
    · rw [h]; exact h3
  have hlen2 : (l.set kk v3).length = n := by rw [List.length_set]; exact Hn.out
  have e6 : (ints l).set kk (v3 : Int) = ints (l.set kk v3) := by simp [ints, List.map_set]
  have hgz : (ints l).getD kk 0 = (z : Int) := by rw [hz]; simp [ints, List.getD_eq_getElem?_getD, hkl]
  have el : (ints l).length = n := by rw [ints_length]; exact Hn.out
  have HS := Lib.hid hs
  have HK := Lib.hid hkind
  have HSP := Lib.hid hsp
  have HST := Lib.hid hst
  have HL2 := Lib.hid hlen2
  have HLK := Lib.hid hlk
  have E6 := Lib.hid e6
  have HGZ := Lib.hid hgz
  have EL := Lib.hid el
  clear hb hj hkk hs hkind hsp hst hlen2 hlk e6 hgz el hz hR
  have bk0 : (0 : Int) ≤ (kk : Int) := by omega
  have bk1 : (kk : Int) < (n : Int) := by omega
  go_wp2_with (first
    | ((with_reducible refine gate_dst (N := 39) rfl ?_); refine Kd.R_lit (Kd.int .u8) _ 5 ?hg (N := 39) ?hd (xs := ([] : List Int)) (inner := []) (ok := fun _ => True) (okp := fun _ => True) ?hr ?hp (fun _ hk => hk) trivial (Below.refl _ _) (Nat.le_refl _) (by simp) ?_; (case hd => rfl); (case hg => rfl); (case hr => first | (go_simp; done) | (go_simp; rfl)); (case hp => exact Reps.none _ _); intro va wa hRa hba hga hna; have hCa := Kd.C_below hC hba)
    | ((with_reducible refine gate_dst (N := 41) rfl ?_); refine Kd.R_append_row (Value.int .u8) 0 _ rfl (.tmp 39) (.tmp 40) 54 5 (.int .u8 0) 1 rfl Try.underlying54 hinfo rfl (by decide) va [] (ints l) _ _ _ (fun _ => True) rfl rfl (fun _ _ => trivial) hRa hCa hba hba.size ?aZ ?_; (case aZ => simp; omega); intro vb wb hRb hbb hgb hnb; rw [List.nil_append] at hRb; obtain ⟨g1, c1, e5, hg1, hg2, cells, hgc⟩ := Kd.R_form hRb (by rw [EL.out]; exact hn0); rw [EL.out] at e5; subst e5; obtain ⟨hcl, hfr⟩ := Kd.R_celln 0 hRb (kk : Int) bk0 bk1; rw [Int.toNat_natCast] at hcl hfr; rw [show rdOf (0 : Int) (ints l) (kk : Int) = (z : Int) from HGZ.out] at hcl)
    | fail)
  have hRs := Kd.R_putn hRb (kk : Int) (v3 : Int)
  rw [Int.toNat_natCast, E6.out] at hRs
  have hw2 := hB.size
  have hbs := Below.setCell (bthen hB hbb) (p := ⟨g1, kk, none⟩) (Nat.le_trans hw2 hg1) (.int .u8 (v3 : Int))
  have hCs : Kd.C (Kd.int .u8) (wb.setCell ⟨g1, kk, none⟩ (.int .u8 (v3 : Int))) A n (ints l) := Kd.C_below hC (Below.setCell hbb (p := ⟨g1, kk, none⟩) hg1 (.int .u8 (v3 : Int)))
  obtain ⟨ws, hws⟩ : ∃ ws, wb.setCell ⟨g1, kk, none⟩ (.int .u8 (v3 : Int)) = ws := ⟨_, rfl⟩
  rw [hws] at hRs hbs hCs
  try rw [hws]
  clear hws hRa hRb hba hbb hga hgb hna hnb hCa hcl hfr hgc hC hB hcj
  refine (of_calls s hl Hn.out (by omega) hc _ hCs).mono ?_
  rintro e w6 ⟨v14, k15, rfl, hT, hb⟩
  rw [HK.out] at hT
  obtain ⟨rfl, hR14⟩ := hT
  dsimp only at hR14
  obtain ⟨A14, c14, rfl, _, hC14⟩ := Kd.R_reads hR14
  rw [ints_length, endB_length] at hC14 ⊢
  have hR6 := Kd.R_below hRs hb
  have hc6 := (Kd.R_reads' hR6).2.1
  have hC6 := (Kd.R_reads' hR6).2.2
  rw [ints_length, HL2.out] at hC6
  have hB6 := bthen hbs hb
  have hgood := good_calls s HLK.out HL2.out (by omega) hc6 w6 hC6 (end_small N (F l)) (B := A14) (m := N) (d := c14) hC14
  rw [HK.out] at hgood
  clear hR6 hR14 hRs hCs hbs hb hC14 hC6
  have hnl : l.length ≤ 300 := by rw [Hn.out]; omega
  have hjj : j = 0 ∨ j = 1 ∨ j = 2 ∨ j = 3 ∨ j = 4 ∨ j = 5 ∨ j = 6 ∨ j = 7 ∨ j = 8 := by omega
  rcases hjj with rfl | rfl | rfl | rfl | rfl | rfl | rfl | rfl | rfl
  · have hs : s = ⟨#[110, 111, 110, 101]⟩ := HS.out.symm
    subst hs
    have hk : kindOf ⟨#[110, 111, 110, 101]⟩ = some (0, sumS) := by kernel_rfl
    have hk2 := HK.out
    rw [hk] at hk2
    simp only [Option.some.injEq, Prod.mk.injEq] at hk2
    obtain ⟨rfl, rfl⟩ := hk2
    clear HK HS hk
    dsimp only [goodOf] at hgood
    rw [show decide (endB 0 (sumS (l.set kk v3)) = endB 0 (sumS l)) = true from by simp [endB]] at hgood
    have HG := Lib.hid hgood
    clear hgood
    by_cases hzv : z = v3
    · have z1 : ((z : Int) == (v3 : Int)) = true := by simp [hzv]
      have hg := HG.out
      go_wp2_with fail
      refine hg.mono ?_
      rintro e w7 ⟨rfl, hb7⟩
      go_wp2_with fail
      go_ret
      exact ⟨by simp, bthen hB6 hb7⟩
    · have z1 : ((z : Int) == (v3 : Int)) = false := by simp; omega
      have hg := HG.out
      clear hzv
      go_wp2_with fail
      refine hg.mono ?_
      rintro e w7 ⟨rfl, hb7⟩
      go_wp2_with fail
      go_ret
      exact ⟨by simp, bthen hB6 hb7⟩
  · have hs : s = ⟨#[115, 117, 109]⟩ := HS.out.symm
    subst hs
    have hk : kindOf ⟨#[115, 117, 109]⟩ = some (1, sumS) := by kernel_rfl
    have hk2 := HK.out
    rw [hk] at hk2
    simp only [Option.some.injEq, Prod.mk.injEq] at hk2
    obtain ⟨rfl, rfl⟩ := hk2
    clear HK HS hk
    dsimp only [goodOf] at hgood
    have hone : decide (endB 1 (sumS (l.set kk v3)) = endB 1 (sumS l)) = decide (z = v3) := by
      have h := one_sum (a := l.take kk) (b := l.drop (kk + 1)) (x := z) (y := v3) (by rw [← HSP.out]; exact hl) h3 (by rw [← HSP.out]; exact hnl)
      rw [← HSP.out, ← HST.out] at h
      exact h
    rw [hone] at hgood
    clear hone
    have HG := Lib.hid hgood
    clear hgood
    by_cases hzv : z = v3
    · have z1 : ((z : Int) == (v3 : Int)) = true := by simp [hzv]
      have hg := HG.out
      rw [decide_eq_true hzv] at hg
      clear HG hzv
      go_wp2_with fail
      refine hg.mono ?_
      rintro e w7 ⟨rfl, hb7⟩
      go_wp2_with fail
      go_ret
      exact ⟨by simp, bthen hB6 hb7⟩
    · have z1 : ((z : Int) == (v3 : Int)) = false := by simp; omega
      have hg := HG.out
      rw [decide_eq_false hzv] at hg
      clear HG hzv
      go_wp2_with fail
      refine hg.mono ?_
      rintro e w7 ⟨rfl, hb7⟩
      go_wp2_with fail
      go_ret
      exact ⟨by simp, bthen hB6 hb7⟩
  · have hs : s = ⟨#[108, 114, 99]⟩ := HS.out.symm
    subst hs
    have hk : kindOf ⟨#[108, 114, 99]⟩ = some (1, negS) := by kernel_rfl
    have hk2 := HK.out
    rw [hk] at hk2
    simp only [Option.some.injEq, Prod.mk.injEq] at hk2
    obtain ⟨rfl, rfl⟩ := hk2
    clear HK HS hk
    dsimp only [goodOf] at hgood
    have hone : decide (endB 1 (negS (l.set kk v3)) = endB 1 (negS l)) = decide (z = v3) := by
      have h := one_neg (a := l.take kk) (b := l.drop (kk + 1)) (x := z) (y := v3) (by rw [← HSP.out]; exact hl) h3 (by rw [← HSP.out]; exact hnl)
      rw [← HSP.out, ← HST.out] at h
      exact h
    rw [hone] at hgood
    clear hone
    have HG := Lib.hid hgood
    clear hgood
    by_cases hzv : z = v3
    · have z1 : ((z : Int) == (v3 : Int)) = true := by simp [hzv]
      have hg := HG.out
      rw [decide_eq_true hzv] at hg
      clear HG hzv
      go_wp2_with fail
      refine hg.mono ?_
      rintro e w7 ⟨rfl, hb7⟩
      go_wp2_with fail
      go_ret
      exact ⟨by simp, bthen hB6 hb7⟩
    · have z1 : ((z : Int) == (v3 : Int)) = false := by simp; omega
      have hg := HG.out
      rw [decide_eq_false hzv] at hg
      clear HG hzv
      go_wp2_with fail
      refine hg.mono ?_
      rintro e w7 ⟨rfl, hb7⟩
      go_wp2_with fail
      go_ret
      exact ⟨by simp, bthen hB6 hb7⟩
  · have hs : s = ⟨#[120, 111, 114]⟩ := HS.out.symm
    subst hs
    have hk : kindOf ⟨#[120, 111, 114]⟩ = some (1, mixS) := by kernel_rfl
    have hk2 := HK.out
    rw [hk] at hk2
    simp only [Option.some.injEq, Prod.mk.injEq] at hk2
    obtain ⟨rfl, rfl⟩ := hk2
    clear HK HS hk
    dsimp only [goodOf] at hgood
    have hone : decide (endB 1 (mixS (l.set kk v3)) = endB 1 (mixS l)) = decide (z = v3) := by
      have h := one_mix (a := l.take kk) (b := l.drop (kk + 1)) (x := z) (y := v3) (by rw [← HSP.out]; exact hl) h3 (by rw [← HSP.out]; exact hnl)
      rw [← HSP.out, ← HST.out] at h
      exact h
    rw [hone] at hgood
    clear hone
    have HG := Lib.hid hgood
    clear hgood
    by_cases hzv : z = v3
    · have z1 : ((z : Int) == (v3 : Int)) = true := by simp [hzv]
      have hg := HG.out
      rw [decide_eq_true hzv] at hg
      clear HG hzv
      go_wp2_with fail
      refine hg.mono ?_
      rintro e w7 ⟨rfl, hb7⟩
      go_wp2_with fail
      go_ret
      exact ⟨by simp, bthen hB6 hb7⟩
    · have z1 : ((z : Int) == (v3 : Int)) = false := by simp; omega
      have hg := HG.out
      rw [decide_eq_false hzv] at hg
      clear HG hzv
      go_wp2_with fail
      refine hg.mono ?_
      rintro e w7 ⟨rfl, hb7⟩
      go_wp2_with fail
      go_ret
      exact ⟨by simp, bthen hB6 hb7⟩
  · have hs : s = ⟨#[102, 108, 101, 116, 99, 104, 101, 114]⟩ := HS.out.symm
    subst hs
    have hk : kindOf ⟨#[102, 108, 101, 116, 99, 104, 101, 114]⟩ = some (2, flS) := by kernel_rfl
    have hk2 := HK.out
    rw [hk] at hk2
    simp only [Option.some.injEq, Prod.mk.injEq] at hk2
    obtain ⟨rfl, rfl⟩ := hk2
    clear HK HS hk
    dsimp only [goodOf] at hgood
    have hone : decide (endB 2 (flS (l.set kk v3)) = endB 2 (flS l)) = decide (z = v3 ∨ (z = 0 ∧ v3 = 255) ∨ (z = 255 ∧ v3 = 0)) := by
      have h := one_fl (a := l.take kk) (b := l.drop (kk + 1)) (x := z) (y := v3) (by rw [← HSP.out]; exact hl) h3 (by rw [← HSP.out]; exact hnl)
      rw [← HSP.out, ← HST.out] at h
      exact h
    rw [hone] at hgood
    clear hone
    have HG := Lib.hid hgood
    clear hgood
    by_cases hzv : z = v3
    · have z1 : ((z : Int) == (v3 : Int)) = true := by simp [hzv]
      have hg := HG.out
      rw [decide_eq_true (Or.inl hzv)] at hg
      clear HG hzv
      go_wp2_with fail
      refine hg.mono ?_
      rintro e w7 ⟨rfl, hb7⟩
      go_wp2_with fail
      go_ret
      exact ⟨by simp, bthen hB6 hb7⟩
    · have z1 : ((z : Int) == (v3 : Int)) = false := by simp; omega
      have hg := HG.out
      by_cases a1 : z = 0
      · have y1 : ((z : Int) == 0) = true := by rw [beq_iff_eq]; omega
        have y3 : ((z : Int) == 255) = false := by rw [beq_eq_false_iff_ne]; omega
        by_cases a2 : v3 = 255
        · have y2 : ((v3 : Int) == 255) = true := by rw [beq_iff_eq]; omega
          rw [decide_eq_true (Or.inr (Or.inl ⟨a1, a2⟩))] at hg
          clear HG hzv a1 a2
          go_wp2_with fail
          refine hg.mono ?_
          rintro e w7 ⟨rfl, hb7⟩
          go_wp2_with fail
          go_ret
          exact ⟨by simp, bthen hB6 hb7⟩
        · have y2 : ((v3 : Int) == 255) = false := by rw [beq_eq_false_iff_ne]; omega
          rw [decide_eq_false (by omega)] at hg
          clear HG hzv a1 a2
          go_wp2_with fail
          refine hg.mono ?_
          rintro e w7 ⟨rfl, hb7⟩
          go_wp2_with fail
          go_ret
          exact ⟨by simp, bthen hB6 hb7⟩
      · have y1 : ((z : Int) == 0) = false := by rw [beq_eq_false_iff_ne]; omega
        by_cases a3 : z = 255
        · have y3 : ((z : Int) == 255) = true := by rw [beq_iff_eq]; omega
          by_cases a4 : v3 = 0
          · have y4 : ((v3 : Int) == 0) = true := by rw [beq_iff_eq]; omega
            rw [decide_eq_true (Or.inr (Or.inr ⟨a3, a4⟩))] at hg
            clear HG hzv a1 a3 a4
            go_wp2_with fail
            refine hg.mono ?_
            rintro e w7 ⟨rfl, hb7⟩
            go_wp2_with fail
            go_ret
            exact ⟨by simp, bthen hB6 hb7⟩
          · have y4 : ((v3 : Int) == 0) = false := by rw [beq_eq_false_iff_ne]; omega
            rw [decide_eq_false (by omega)] at hg
            clear HG hzv a1 a3 a4
            go_wp2_with fail
            refine hg.mono ?_
            rintro e w7 ⟨rfl, hb7⟩
            go_wp2_with fail
            go_ret
            exact ⟨by simp, bthen hB6 hb7⟩
        · have y3 : ((z : Int) == 255) = false := by rw [beq_eq_false_iff_ne]; omega
          rw [decide_eq_false (by omega)] at hg
          clear HG hzv a1 a3
          go_wp2_with fail
          refine hg.mono ?_
          rintro e w7 ⟨rfl, hb7⟩
          go_wp2_with fail
          go_ret
          exact ⟨by simp, bthen hB6 hb7⟩
  · have hs : s = ⟨#[99, 114, 99, 56]⟩ := HS.out.symm
    subst hs
    have hk : kindOf ⟨#[99, 114, 99, 56]⟩ = some (1, fun l => CrcPlain.sum 8 7 0 false 0 l) := by kernel_rfl
    have hk2 := HK.out
    rw [hk] at hk2
    simp only [Option.some.injEq, Prod.mk.injEq] at hk2
    obtain ⟨rfl, rfl⟩ := hk2
    clear HK HS hk
    dsimp only [goodOf] at hgood
    have hone : decide (endB 1 (CrcPlain.sum 8 7 0 false 0 (l.set kk v3)) = endB 1 (CrcPlain.sum 8 7 0 false 0 l)) = decide (z = v3) := by
      have h := one_crc (w := 8) (p := 7) (f := 0) (last := 0) (t := false) (N := 1) (a := l.take kk) (b := l.drop (kk + 1)) (x := z) (y := v3) (by rw [← HSP.out]; exact hl) h3 (by decide) (by decide) (by decide) (by decide) (by decide) (by decide)
      rw [← HSP.out, ← HST.out] at h
      exact h
    rw [hone] at hgood
    clear hone
    have HG := Lib.hid hgood
    clear hgood
    by_cases hzv : z = v3
    · have z1 : ((z : Int) == (v3 : Int)) = true := by simp [hzv]
      have hg := HG.out
      rw [decide_eq_true hzv] at hg
      clear HG hzv
      go_wp2_with fail
      refine hg.mono ?_
      rintro e w7 ⟨rfl, hb7⟩
      go_wp2_with fail
      go_ret
      exact ⟨by simp, bthen hB6 hb7⟩
    · have z1 : ((z : Int) == (v3 : Int)) = false := by simp; omega
      have hg := HG.out
      rw [decide_eq_false hzv] at hg
      clear HG hzv
      go_wp2_with fail
      refine hg.mono ?_
      rintro e w7 ⟨rfl, hb7⟩
      go_wp2_with fail
      go_ret
      exact ⟨by simp, bthen hB6 hb7⟩
  · have hs : s = ⟨#[99, 114, 99, 49, 54]⟩ := HS.out.symm
    subst hs
    have hk : kindOf ⟨#[99, 114, 99, 49, 54]⟩ = some (2, fun l => CrcPlain.sum 16 32773 0 true 0 l) := by kernel_rfl
    have hk2 := HK.out
    rw [hk] at hk2
    simp only [Option.some.injEq, Prod.mk.injEq] at hk2
    obtain ⟨rfl, rfl⟩ := hk2
    clear HK HS hk
    dsimp only [goodOf] at hgood
    have hone : decide (endB 2 (CrcPlain.sum 16 32773 0 true 0 (l.set kk v3)) = endB 2 (CrcPlain.sum 16 32773 0 true 0 l)) = decide (z = v3) := by
      have h := one_crc (w := 16) (p := 32773) (f := 0) (last := 0) (t := true) (N := 2) (a := l.take kk) (b := l.drop (kk + 1)) (x := z) (y := v3) (by rw [← HSP.out]; exact hl) h3 (by decide) (by decide) (by decide) (by decide) (by decide) (by decide)
      rw [← HSP.out, ← HST.out] at h
      exact h
    rw [hone] at hgood
    clear hone
    have HG := Lib.hid hgood
    clear hgood
    by_cases hzv : z = v3
    · have z1 : ((z : Int) == (v3 : Int)) = true := by simp [hzv]
      have hg := HG.out
      rw [decide_eq_true hzv] at hg
      clear HG hzv
      go_wp2_with fail
      refine hg.mono ?_
      rintro e w7 ⟨rfl, hb7⟩
      go_wp2_with fail
      go_ret
      exact ⟨by simp, bthen hB6 hb7⟩
    · have z1 : ((z : Int) == (v3 : Int)) = false := by simp; omega
      have hg := HG.out
      rw [decide_eq_false hzv] at hg
      clear HG hzv
      go_wp2_with fail
      refine hg.mono ?_
      rintro e w7 ⟨rfl, hb7⟩
      go_wp2_with fail
      go_ret
      exact ⟨by simp, bthen hB6 hb7⟩
  · have hs : s = ⟨#[99, 99, 105, 116, 116]⟩ := HS.out.symm
    subst hs
    have hk : kindOf ⟨#[99, 99, 105, 116, 116]⟩ = some (2, fun l => CrcPlain.sum 16 4129 65535 false 0 l) := by kernel_rfl
    have hk2 := HK.out
    rw [hk] at hk2
    simp only [Option.some.injEq, Prod.mk.injEq] at hk2
    obtain ⟨rfl, rfl⟩ := hk2
    clear HK HS hk
    dsimp only [goodOf] at hgood
    have hone : decide (endB 2 (CrcPlain.sum 16 4129 65535 false 0 (l.set kk v3)) = endB 2 (CrcPlain.sum 16 4129 65535 false 0 l)) = decide (z = v3) := by
      have h := one_crc (w := 16) (p := 4129) (f := 65535) (last := 0) (t := false) (N := 2) (a := l.take kk) (b := l.drop (kk + 1)) (x := z) (y := v3) (by rw [← HSP.out]; exact hl) h3 (by decide) (by decide) (by decide) (by decide) (by decide) (by decide)
      rw [← HSP.out, ← HST.out] at h
      exact h
    rw [hone] at hgood
    clear hone
    have HG := Lib.hid hgood
    clear hgood
    by_cases hzv : z = v3
    · have z1 : ((z : Int) == (v3 : Int)) = true := by simp [hzv]
      have hg := HG.out
      rw [decide_eq_true hzv] at hg
      clear HG hzv
      go_wp2_with fail
      refine hg.mono ?_
      rintro e w7 ⟨rfl, hb7⟩
      go_wp2_with fail
      go_ret
      exact ⟨by simp, bthen hB6 hb7⟩
    · have z1 : ((z : Int) == (v3 : Int)) = false := by simp; omega
      have hg := HG.out
      rw [decide_eq_false hzv] at hg
      clear HG hzv
      go_wp2_with fail
      refine hg.mono ?_
      rintro e w7 ⟨rfl, hb7⟩
      go_wp2_with fail
      go_ret
      exact ⟨by simp, bthen hB6 hb7⟩
  · have hs : s = ⟨#[99, 114, 99, 51, 50]⟩ := HS.out.symm
    subst hs
    have hk : kindOf ⟨#[99, 114, 99, 51, 50]⟩ = some (4, fun l => CrcPlain.sum 32 79764919 4294967295 true 4294967295 l) := by kernel_rfl
    have hk2 := HK.out
    rw [hk] at hk2
    simp only [Option.some.injEq, Prod.mk.injEq] at hk2
    obtain ⟨rfl, rfl⟩ := hk2
    clear HK HS hk
    dsimp only [goodOf] at hgood
    have hone : decide (endB 4 (CrcPlain.sum 32 79764919 4294967295 true 4294967295 (l.set kk v3)) = endB 4 (CrcPlain.sum 32 79764919 4294967295 true 4294967295 l)) = decide (z = v3) := by
      have h := one_crc (w := 32) (p := 79764919) (f := 4294967295) (last := 4294967295) (t := true) (N := 4) (a := l.take kk) (b := l.drop (kk + 1)) (x := z) (y := v3) (by rw [← HSP.out]; exact hl) h3 (by decide) (by decide) (by decide) (by decide) (by decide) (by decide)
      rw [← HSP.out, ← HST.out] at h
      exact h
    rw [hone] at hgood
    clear hone
    have HG := Lib.hid hgood
    clear hgood
    by_cases hzv : z = v3
    · have z1 : ((z : Int) == (v3 : Int)) = true := by simp [hzv]
      have hg := HG.out
      rw [decide_eq_true hzv] at hg
      clear HG hzv
      go_wp2_with fail
      refine hg.mono ?_
      rintro e w7 ⟨rfl, hb7⟩
      go_wp2_with fail
      go_ret
      exact ⟨by simp, bthen hB6 hb7⟩
    · have z1 : ((z : Int) == (v3 : Int)) = false := by simp; omega
      have hg := HG.out
      rw [decide_eq_false hzv] at hg
      clear HG hzv
      go_wp2_with fail
      refine hg.mono ?_
      rintro e w7 ⟨rfl, hb7⟩
      go_wp2_with fail
      go_ret
      exact ⟨by simp, bthen hB6 hb7⟩
theorem row (a0 a2 a3 : Int) (w0 : (Lit.int .u8 a0).wf = true) (w2 : (Lit.int .u16 a2).wf = true) (w3 : (Lit.int .u8 a3).wf = true) {l : List Nat} {A : Option Addr} {n c : Nat} (hn : l.length = n) (hl : ∀ x ∈ l, x < 256) (hc : n ≤ c) (w : World) (hC : Kd.C (Kd.int .u8) w A n (ints l)) :
    Calls Try.prog 14 #[.int .u8 a0, .slice A n c, .int .u16 a2, .int .u8 a3] w fun e w' => e = .returned (.bool true) ∧ Below w.heap.size w w' := by
  have w0 := bounds_u8 w0
  have w2 := bounds_u16 w2
  have w3 := bounds_u8 w3
  obtain ⟨v0, rfl⟩ := Int.eq_ofNat_of_zero_le w0.1
  obtain ⟨v2, rfl⟩ := Int.eq_ofNat_of_zero_le w2.1
  obtain ⟨v3, rfl⟩ := Int.eq_ofNat_of_zero_le w3.1
  exact walk v0 v2 v3 (by omega) (by omega) (by omega) hn hl hc w hC
end Go.Proofs.Ytcmofedfbjpjlaa.SumsOneWalk
