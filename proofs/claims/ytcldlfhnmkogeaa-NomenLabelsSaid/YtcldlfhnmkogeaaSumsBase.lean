import Derived.Test.YtcldlfhnmkogeaaPsummedx1
import Derived.Test.YtcldlfhnmkogeaaPmixedx1
import Derived.Test.YtcldlfhnmkogeaaPfletcherx1
import Derived.Test.YtcldlfhnmkogeaaPnegativex1
import Derived.Test.YtcldlfhnmkogeaaCrcRunPSum
import Derived.Test.YtcldlfhnmkogeaaPNamedx1
import Derived.Test.YtcldlfhnmkogeaaCrcCalls
import Derived.Test.YtcldlfhnmkogeaaHeapKit
import Derived.MapKept
import Derived.RangeFuncKeeps
import Derived.LoopTactic
import Derived.RegionTactic
import Derived.Lib.Hide
/- The sums of bytes (sums.summed, negative, mixed, fletcher) in plain Lean, and as contracts. -/
set_option linter.unusedVariables false
set_option linter.unusedSimpArgs false
namespace Go.Proofs.Ytcldlfhnmkogeaa.Sums
open Go.RowKit Go.Proofs.YtcldlfhnmkogeaaW.PrintWords Go.Proofs.YtcldlfhnmkogeaaW.PrintLast Go.Proofs.Ytcldlfhnmkogeaa.Nats

def addS (s c : Nat) : Nat := (s + c) % 4294967296
def sumS (l : List Nat) : Nat := l.foldl addS 0
def negS (l : List Nat) : Nat := (4294967296 - sumS l) % 4294967296
def mixS (l : List Nat) : Nat := l.foldl (fun x c => x ^^^ c) 0
def flA (p : Nat × Nat) (c : Nat) : Nat × Nat := ((p.1 + c) % 255, (p.2 + (p.1 + c) % 255) % 255)
def flP (l : List Nat) : Nat × Nat := l.foldl flA (0, 0)
def flS (l : List Nat) : Nat := (flP l).2 * 256 + (flP l).1

theorem fold_lt : ∀ (l : List Nat) (s : Nat), s < 4294967296 → l.foldl addS s < 4294967296
  | [], s, h => h
  | c :: l, s, h => fold_lt l _ (Nat.mod_lt _ (by decide))
theorem sumS_lt (l : List Nat) : sumS l < 4294967296 := fold_lt l 0 (by decide)
theorem addS_lt (s c : Nat) : addS s c < 4294967296 := Nat.mod_lt _ (by decide)
theorem w64 {i : Int} (h0 : 0 ≤ i) (h : i < 9223372036854775807) : wrap64 (i + 1) = i + 1 := by unfold wrap64; omega
theorem rd_nat (l : List Nat) (i : Nat) (h : i < l.length) : rd (ints l) (i : Int) = ((l[i] : Nat) : Int) := RunPSum.rd_nat l i h
theorem nat_i {i : Nat} (h : (i : Int) < 9223372036854775807) : wrap64 ((i : Int) + 1) = ((i + 1 : Nat) : Int) := by rw [w64 (by omega) h]; rfl
theorem or_low (y x : Nat) (hx : x < 256) (hy : y < 256) : Go.bits .or .u32 (((y : Int) * 256) % 4294967296) (x : Int) = ((y * 256 + x : Nat) : Int) := by
  have e : ((y : Int) * 256) % 4294967296 = ((y * 256 : Nat) : Int) := by omega
  rw [e, Go.u32_or_nat (y * 256) x (by omega) (by omega)]
  congr 1
  have := Nat.shiftLeft_add_eq_or_of_lt (i := 8) (show x < 2 ^ 8 from hx) y
  rw [Nat.shiftLeft_eq] at this
  exact this.symm
section
variable (l : List Nat) (hl : ∀ x ∈ l, x < 256) (hlen : l.length < 9223372036854775807)
include hl hlen
theorem summed_l0 : ∀ (d s i : Nat), i + d = l.length → s < 4294967296 → Ev (fun k => Psummed.sums_summed.l0 k (s : Int) (ints l) (l.length : Int) (i : Int)) (((l.drop i).foldl addS s : Nat) : Int)
  | 0, s, i, hi, hs => by
    have e : l.drop i = [] := List.drop_of_length_le (by omega)
    rw [e]
    refine Ev.step (f := fun _ => some (s : Int)) (fun k => ?_) (Ev.now _)
    simp only [Psummed.sums_summed.l0]; rw [if_neg (by omega)]
  | d + 1, s, i, hi, hs => by
    have hlt : i < l.length := by omega
    have hc : l[i] < 256 := hl _ (List.getElem_mem hlt)
    have ih := summed_l0 d (addS s l[i]) (i + 1) (by omega) (addS_lt _ _)
    rw [List.drop_eq_getElem_cons hlt, List.foldl_cons]
    refine Ev.step (fun k => ?_) ih
    simp only [Psummed.sums_summed.l0]
    rw [if_pos (by omega), if_pos (by omega), if_pos (by rw [ints_length]; omega), rd_nat l i hlt, nat_i (by omega)]
    congr 1
    unfold addS
    omega
theorem summed_ev : Ev (fun k => Psummed.sums_summed.f k (ints l)) ((sumS l : Nat) : Int) := by
  have h := summed_l0 l hl hlen l.length 0 0 (by omega) (by omega)
  refine Ev.congr (fun k => ?_) h
  simp only [Psummed.sums_summed.f, ints_length]
  rfl
theorem nsummed_l0 : ∀ (d s i : Nat), i + d = l.length → s < 4294967296 → Ev (fun k => Pnegative.sums_summed.l0 k (s : Int) (ints l) (l.length : Int) (i : Int)) (((l.drop i).foldl addS s : Nat) : Int)
  | 0, s, i, hi, hs => by
    have e : l.drop i = [] := List.drop_of_length_le (by omega)
    rw [e]
    refine Ev.step (f := fun _ => some (s : Int)) (fun k => ?_) (Ev.now _)
    simp only [Pnegative.sums_summed.l0]; rw [if_neg (by omega)]
  | d + 1, s, i, hi, hs => by
    have hlt : i < l.length := by omega
    have hc : l[i] < 256 := hl _ (List.getElem_mem hlt)
    have ih := nsummed_l0 d (addS s l[i]) (i + 1) (by omega) (addS_lt _ _)
    rw [List.drop_eq_getElem_cons hlt, List.foldl_cons]
    refine Ev.step (fun k => ?_) ih
    simp only [Pnegative.sums_summed.l0]
    rw [if_pos (by omega), if_pos (by omega), if_pos (by rw [ints_length]; omega), rd_nat l i hlt, nat_i (by omega)]
    congr 1
    unfold addS
    omega
theorem negative_ev : Ev (fun k => Pnegative.sums_negative.f k (ints l)) ((negS l : Nat) : Int) := by
  have h := nsummed_l0 l hl hlen l.length 0 0 (by omega) (by omega)
  have h' : Ev (fun k => Pnegative.sums_summed.f k (ints l)) ((sumS l : Nat) : Int) := by
    refine Ev.congr (fun k => ?_) h
    simp only [Pnegative.sums_summed.f, ints_length]
    rfl
  have hlt := sumS_lt l
  have e : ((negS l : Nat) : Int) = (-((sumS l : Nat) : Int)) % 4294967296 := by
    unfold negS
    omega
  rw [e]
  exact Ev.bind (f := fun _ (t : Int) => some ((-t) % 4294967296)) h' (Ev.now _)
theorem mixed_l0 : ∀ (d s i : Nat), i + d = l.length → s < 256 → Ev (fun k => Pmixed.sums_mixed.l0 k (s : Int) (ints l) (l.length : Int) (i : Int)) (((l.drop i).foldl (fun x c => x ^^^ c) s : Nat) : Int)
  | 0, s, i, hi, hs => by
    have e : l.drop i = [] := List.drop_of_length_le (by omega)
    rw [e]
    refine Ev.step (f := fun _ => some (s : Int)) (fun k => ?_) (Ev.now _)
    simp only [Pmixed.sums_mixed.l0]; rw [if_neg (by omega)]
    congr 1
    omega
  | d + 1, s, i, hi, hs => by
    have hlt : i < l.length := by omega
    have hc : l[i] < 256 := hl _ (List.getElem_mem hlt)
    have hx : s ^^^ l[i] < 256 := Nat.xor_lt_two_pow (n := 8) hs hc
    have ih := mixed_l0 d (s ^^^ l[i]) (i + 1) (by omega) hx
    rw [List.drop_eq_getElem_cons hlt, List.foldl_cons]
    refine Ev.step (fun k => ?_) ih
    simp only [Pmixed.sums_mixed.l0]
    rw [if_pos (by omega), if_pos (by omega), if_pos (by rw [ints_length]; omega), rd_nat l i hlt, nat_i (by omega), Go.u8_xor_nat s l[i] hs hc]
theorem mixed_ev : Ev (fun k => Pmixed.sums_mixed.f k (ints l)) ((mixS l : Nat) : Int) := by
  have h := mixed_l0 l hl hlen l.length 0 0 (by omega) (by omega)
  refine Ev.congr (fun k => ?_) h
  simp only [Pmixed.sums_mixed.f, ints_length]
  rfl
theorem fletcher_l0 : ∀ (d : Nat) (p : Nat × Nat) (i : Nat), i + d = l.length → p.1 < 255 → p.2 < 255 → Ev (fun k => Pfletcher.sums_fletcher.l0 k (p.1 : Int) (p.2 : Int) (ints l) (l.length : Int) (i : Int)) ((((l.drop i).foldl flA p).2 * 256 + ((l.drop i).foldl flA p).1 : Nat) : Int)
  | 0, p, i, hi, h1, h2 => by
    have e : l.drop i = [] := List.drop_of_length_le (by omega)
    rw [e]
    refine Ev.step (f := fun _ => some ((p.2 * 256 + p.1 : Nat) : Int)) (fun k => ?_) (Ev.now _)
    simp only [Pfletcher.sums_fletcher.l0]; rw [if_neg (by omega), or_low p.2 p.1 (by omega) (by omega)]
  | d + 1, p, i, hi, h1, h2 => by
    have hlt : i < l.length := by omega
    have hc : l[i] < 256 := hl _ (List.getElem_mem hlt)
    have ih := fletcher_l0 d (flA p l[i]) (i + 1) (by omega) (Nat.mod_lt _ (by decide)) (Nat.mod_lt _ (by decide))
    rw [List.drop_eq_getElem_cons hlt, List.foldl_cons]
    refine Ev.step (fun k => ?_) ih
    simp only [Pfletcher.sums_fletcher.l0]
    rw [if_pos (by omega), if_pos (by omega), if_pos (by rw [ints_length]; omega), rd_nat l i hlt, nat_i (by omega)]
    have e1 : (((p.1 : Int) + (((l[i] : Nat) : Int) % 4294967296)) % 4294967296) % 255 = (((flA p l[i]).1 : Nat) : Int) := by
      show _ = (((p.1 + l[i]) % 255 : Nat) : Int)
      omega
    have e2 : (((p.2 : Int) + (((flA p l[i]).1 : Nat) : Int)) % 4294967296) % 255 = (((flA p l[i]).2 : Nat) : Int) := by
      show ((p.2 : Int) + (((p.1 + l[i]) % 255 : Nat) : Int)) % 4294967296 % 255 = (((p.2 + (p.1 + l[i]) % 255) % 255 : Nat) : Int)
      omega
    rw [e1, e2]
theorem fletcher_ev : Ev (fun k => Pfletcher.sums_fletcher.f k (ints l)) ((flS l : Nat) : Int) := by
  have h := fletcher_l0 l hl hlen l.length (0, 0) 0 (by omega) (by decide) (by decide)
  refine Ev.congr (fun k => ?_) h
  simp only [Pfletcher.sums_fletcher.f, ints_length]
  rfl
end
theorem summed_calls {l : List Nat} (hl : ∀ x ∈ l, x < 256) {A : Option Addr} {n c : Nat} (hn : l.length = n) (hm : n < 9223372036854775807) (hc : n ≤ c) (W : World) (hC : Kd.C (Kd.int .u8) W A n (ints l)) :
    Calls Try.prog 96 #[.slice A n c] W fun e w' => e = .returned (.int .u32 ((sumS l : Nat) : Int)) ∧ Below W.heap.size W w' := by
  subst hn
  obtain ⟨k, hk⟩ := (summed_ev l hl hm).rounds
  have e : (ints l).length = l.length := ints_length l
  have h := Psummed.sums_summed.calls k A c (ints l) _ W (by rw [e]; exact hC) (by rw [e]; exact hc) hk
  rw [e] at h
  exact h.mono (fun e w' hh => ⟨hh.1, hh.2.below⟩)
theorem negative_calls {l : List Nat} (hl : ∀ x ∈ l, x < 256) {A : Option Addr} {n c : Nat} (hn : l.length = n) (hm : n < 9223372036854775807) (hc : n ≤ c) (W : World) (hC : Kd.C (Kd.int .u8) W A n (ints l)) :
    Calls Try.prog 97 #[.slice A n c] W fun e w' => e = .returned (.int .u32 ((negS l : Nat) : Int)) ∧ Below W.heap.size W w' := by
  subst hn
  obtain ⟨k, hk⟩ := (negative_ev l hl hm).rounds
  have e : (ints l).length = l.length := ints_length l
  have h := Pnegative.sums_negative.calls k A c (ints l) _ W (by rw [e]; exact hC) (by rw [e]; exact hc) hk
  rw [e] at h
  exact h.mono (fun e w' hh => ⟨hh.1, hh.2.below⟩)
theorem mixed_calls {l : List Nat} (hl : ∀ x ∈ l, x < 256) {A : Option Addr} {n c : Nat} (hn : l.length = n) (hm : n < 9223372036854775807) (hc : n ≤ c) (W : World) (hC : Kd.C (Kd.int .u8) W A n (ints l)) :
    Calls Try.prog 98 #[.slice A n c] W fun e w' => e = .returned (.int .u32 ((mixS l : Nat) : Int)) ∧ Below W.heap.size W w' := by
  subst hn
  obtain ⟨k, hk⟩ := (mixed_ev l hl hm).rounds
  have e : (ints l).length = l.length := ints_length l
  have h := Pmixed.sums_mixed.calls k A c (ints l) _ W (by rw [e]; exact hC) (by rw [e]; exact hc) hk
  rw [e] at h
  exact h.mono (fun e w' hh => ⟨hh.1, hh.2.below⟩)
theorem fletcher_calls {l : List Nat} (hl : ∀ x ∈ l, x < 256) {A : Option Addr} {n c : Nat} (hn : l.length = n) (hm : n < 9223372036854775807) (hc : n ≤ c) (W : World) (hC : Kd.C (Kd.int .u8) W A n (ints l)) :
    Calls Try.prog 99 #[.slice A n c] W fun e w' => e = .returned (.int .u32 ((flS l : Nat) : Int)) ∧ Below W.heap.size W w' := by
  subst hn
  obtain ⟨k, hk⟩ := (fletcher_ev l hl hm).rounds
  have e : (ints l).length = l.length := ints_length l
  have h := Pfletcher.sums_fletcher.calls k A c (ints l) _ W (by rw [e]; exact hC) (by rw [e]; exact hc) hk
  rw [e] at h
  exact h.mono (fun e w' hh => ⟨hh.1, hh.2.below⟩)
end Go.Proofs.Ytcldlfhnmkogeaa.Sums

/- The table of the kinds of endings (sums.kinds), walked. -/
set_option linter.unusedVariables false
set_option linter.unusedSimpArgs false
namespace Go.Proofs.Ytcldlfhnmkogeaa.Sums
open Go.RowKit Go.Proofs.YtcldlfhnmkogeaaW.PrintWords Go.Proofs.YtcldlfhnmkogeaaW.PrintLast Go.Proofs.Ytcldlfhnmkogeaa.Nats Go.Proofs.Ytcldlfhnmkogeaa.HeapKit

section
variable {P : Program} {ops : Array Oper} {rest : List Oper} {o : Oper} {a : Act} {Q : Exit → Act → World → Prop}
theorem skip_event {W w1 : World} (hgd : o.guard = none) (hd : o.dst = none) (hrun : (execOp a.eval o).run P W = .ok .skip w1) (h : wpList P ops Q rest a w1) : wpList P ops Q (o :: rest) a W := by
  refine wpList_plain hgd fun K hK => ?_
  unfold Oper.wp
  rw [hrun]
  refine hK _ _ ?_
  rw [hd]
  exact h
/-- An entry is laid into a map. -/
theorem put_event {W : World} {t : TypeId} {x v : Operand} {s : ByteArray} (ho : o.op = .insert t x (.const (.string s)) v) (hgd : o.guard = none) (hd : o.dst = none) {kt et : TypeId} {m : Nat} {es es' : Array MapEntry} {clock : Nat} {val : Value} (hm : P.underlying t = some (.map kt et)) (hk : P.underlying kt = some .string) (hx : a.eval x = .map (some m)) (hv : a.eval v = val) (hb : W.heap[m]? = some (.map es clock)) (hf : Instr.findNow .string (.string s) es.toList 0 = some none)
    (he : es.push { key := .string s, val := val, born := clock } = es') (h : ∀ w1, w1 = W.putObj m (.map es' (clock + 1)) → wpList P ops Q rest a w1) : wpList P ops Q (o :: rest) a W := by
  refine skip_event hgd hd (w1 := W.putObj m (.map es' (clock + 1))) ?_ (h _ rfl)
  have hc : (Instr.checkKey false 10000 kt (.string s)).run P W = .ok () W := MapKept.run_checkKey (k := .string s) hk (by simp [MapKept.IsKey]) false 9999
  have e1 : a.eval (.const (.string s)) = .string s := rfl
  unfold execOp
  simp only [ho, hx, hv, e1]
  subst he
  simp [Instr.mapUpdate, run_underlying hm, MapKept.run_getObj_map hb, hc, MapKept.run_findKey hk hf, MapKept.run_setObj_map _ hb, Result.andThen, World.putObj]
theorem gate_key {t : TypeId} {x v : Operand} {s : ByteArray} (_ho : o.op = .insert t x (.const (.string s)) v) {W : World} (h : wpList P ops Q (o :: rest) a W) : wpList P ops Q (o :: rest) a W := h
end
/-- What is looked up in a map of texts. -/
theorem run_look {P : Program} {W : World} {t kt et : TypeId} {m : Nat} {es : Array MapEntry} {clock : Nat} {s : ByteArray} (hm : P.underlying t = some (.map kt et)) (hk : P.underlying kt = some .string) (hb : W.heap[m]? = some (.map es clock)) :
    (∀ i v, Instr.findNow .string (.string s) es.toList 0 = some (some (i, v)) → (Instr.lookup t (.map (some m)) (.string s) true).run P W = .ok (.tuple #[v, .bool true]) W) ∧
    (∀ z, Instr.findNow .string (.string s) es.toList 0 = some none → (zeroValue et).run P W = .ok z W → (Instr.lookup t (.map (some m)) (.string s) true).run P W = .ok (.tuple #[z, .bool false]) W) := by
  have hc : ∀ e : Bool, (Instr.checkKey e 10000 kt (.string s)).run P W = .ok () W := fun e => MapKept.run_checkKey (k := .string s) hk (by simp [MapKept.IsKey]) e 9999
  constructor
  · intro i v hf
    simp [Instr.lookup, run_underlying hm, MapKept.run_getObj_map hb, hc, MapKept.run_findKey hk hf, Result.andThen]
  · intro z hf hz
    simp [Instr.lookup, run_underlying hm, MapKept.run_getObj_map hb, hc, MapKept.run_findKey hk hf, hz, Result.andThen]
theorem below_put {n m : Nat} {W0 W : World} {es es' : Array MapEntry} {c c' : Nat} (h : Below n W0 W) (hm : n ≤ m) (hb : W.heap[m]? = some (.map es c)) (hn : n ≤ W0.heap.size) : Below n W0 (W.putObj m (.map es' c')) := by
  have e : (W.putObj m (.map es' c')).heap.size = W.heap.size := World.putObj_size
  refine ⟨h.os, h.tape, h.output, by rw [e]; exact h.size, fun k hk => ?_⟩
  rw [World.putObj_heap_other (by omega)]
  exact h.block k hk
theorem map_put {m : Nat} {W : World} {es es' : Array MapEntry} {c c' : Nat} (hb : W.heap[m]? = some (.map es c)) : (W.putObj m (.map es' c')).heap[m]? = some (.map es' c') := World.putObj_heap_same (blk_lt hb)
theorem cells_put {m k : Nat} {W : World} {es es' : Array MapEntry} {c c' : Nat} {cs : Array Value} {t : TypeId} {fz : Nat × Nat} (h : W.heap[k]? = some (.cells cs t fz)) (hb : W.heap[m]? = some (.map es c)) : (W.putObj m (.map es' c')).heap[k]? = some (.cells cs t fz) := by
  have hne : k ≠ m := by
    rintro rfl
    rw [hb] at h
    cases h
  rw [World.putObj_heap_other hne]
  exact h

/-- A kind of chapter 4, as a value: a closure over a block that holds it. -/
def dv (b : Nat) : Value := .func (.func 103) #[] #[.pointer (some ⟨b, 0, none⟩)]
def kcells (w p f : Nat) (t : Bool) (last : Nat) : Array Value := #[.int .i64 (w : Int), .int .u32 (p : Int), .int .u32 (f : Int), .bool t, .int .u32 (last : Int)]
set_option maxRecDepth 100000 in
set_option maxHeartbeats 1000000 in
theorem divided_calls {s : ByteArray} {w p f last : Nat} {t : Bool} (hN : PNamed.crc_Named.f s = some ((w : Int), (p : Int), (f : Int), t, (last : Int), true)) (W : World) :
    Calls Try.prog 100 #[.string s] W fun e w' => ∃ b, e = .returned (dv b) ∧ W.heap.size ≤ b ∧ w'.heap[b]? = some (.cells (kcells w p f t last) 158 (0, 0)) ∧ Below W.heap.size W w' := by
  have hc := fun w => PNamed.crc_Named.calls s _ _ _ _ _ _ w hN
  have HC := Lib.hid hc
  clear hc hN
  go_enter Try.func100, Try.ntmps100
  go_wp2_with fail
  refine (HC.out _).mono ?_
  rintro e w1 ⟨rfl, hb1⟩
  have k := blk_new w1 (.cells #[.int .i64 (w : Int), .int .u32 (p : Int), .int .u32 (f : Int), .bool t, .int .u32 (last : Int)] 158)
  have hB := bthen hb1 (below_alloc (Below.refl _ _) (.cells #[.int .i64 (w : Int), .int .u32 (p : Int), .int .u32 (f : Int), .bool t, .int .u32 (last : Int)] 158))
  go_wp2_with fail
  go_ret
  exact ⟨w1.heap.size, rfl, hb1.size, k, hB⟩
end Go.Proofs.Ytcldlfhnmkogeaa.Sums

/- The table of the kinds of endings (sums.kinds), walked. -/
set_option linter.unusedVariables false
set_option linter.unusedSimpArgs false
namespace Go.Proofs.Ytcldlfhnmkogeaa.Sums
open Go.RowKit Go.Proofs.YtcldlfhnmkogeaaW.PrintWords Go.Proofs.YtcldlfhnmkogeaaW.PrintLast Go.Proofs.Ytcldlfhnmkogeaa.Nats Go.Proofs.Ytcldlfhnmkogeaa.HeapKit

/-- The table. -/
def table (b1 b2 b3 b4 : Nat) : Array MapEntry := #[{ key := .string ⟨#[110, 111, 110, 101]⟩, val := .agg #[.int .i64 0, .func (.func 96) #[] #[]], born := 0 }, { key := .string ⟨#[115, 117, 109]⟩, val := .agg #[.int .i64 1, .func (.func 96) #[] #[]], born := 1 }, { key := .string ⟨#[108, 114, 99]⟩, val := .agg #[.int .i64 1, .func (.func 97) #[] #[]], born := 2 }, { key := .string ⟨#[120, 111, 114]⟩, val := .agg #[.int .i64 1, .func (.func 98) #[] #[]], born := 3 }, { key := .string ⟨#[102, 108, 101, 116, 99, 104, 101, 114]⟩, val := .agg #[.int .i64 2, .func (.func 99) #[] #[]], born := 4 }, { key := .string ⟨#[99, 114, 99, 56]⟩, val := .agg #[.int .i64 1, .func (.func 103) #[] #[.pointer (some ⟨b1, 0, none⟩)]], born := 5 }, { key := .string ⟨#[99, 114, 99, 49, 54]⟩, val := .agg #[.int .i64 2, .func (.func 103) #[] #[.pointer (some ⟨b2, 0, none⟩)]], born := 6 }, { key := .string ⟨#[99, 99, 105, 116, 116]⟩, val := .agg #[.int .i64 2, .func (.func 103) #[] #[.pointer (some ⟨b3, 0, none⟩)]], born := 7 }, { key := .string ⟨#[99, 114, 99, 51, 50]⟩, val := .agg #[.int .i64 4, .func (.func 103) #[] #[.pointer (some ⟨b4, 0, none⟩)]], born := 8 }]
/-- The table lies in the heap. -/
structure Table (W : World) (m b1 b2 b3 b4 : Nat) : Prop where
  m : W.heap[m]? = some (.map (table b1 b2 b3 b4) 9)
  k1 : W.heap[b1]? = some (.cells (kcells 8 7 0 false 0) 158 (0, 0))
  k2 : W.heap[b2]? = some (.cells (kcells 16 32773 0 true 0) 158 (0, 0))
  k3 : W.heap[b3]? = some (.cells (kcells 16 4129 65535 false 0) 158 (0, 0))
  k4 : W.heap[b4]? = some (.cells (kcells 32 79764919 4294967295 true 4294967295) 158 (0, 0))
theorem Table.step {W w2 : World} {m b1 b2 b3 b4 : Nat} (h : Table W m b1 b2 b3 b4) (hb : Below W.heap.size W w2) : Table w2 m b1 b2 b3 b4 :=
  ⟨blk_below h.m hb, blk_below h.k1 hb, blk_below h.k2 hb, blk_below h.k3 hb, blk_below h.k4 hb⟩
set_option maxRecDepth 100000 in
set_option maxHeartbeats 4000000 in
theorem kinds_calls (w : World) : Calls Try.prog 91 #[] w fun e w' => ∃ m b1 b2 b3 b4, e = .returned (.map (some m)) ∧ w.heap.size ≤ m ∧ Table w' m b1 b2 b3 b4 ∧ Below w.heap.size w w' := by
  have m0 := blk_new w (.map #[] 0)
  have hB0 := below_alloc (Below.refl w.heap.size w) (.map #[] 0)
  have hmk : ∀ w, (Instr.makeMap 151 none).run Try.prog w = .ok (.map (some w.heap.size)) (w.alloc (.map #[] 0)) := fun w => rfl
  go_enter Try.func91, Try.ntmps91
  go_wp2_with (first | ((with_reducible refine gate_key (s := ⟨#[110, 111, 110, 101]⟩) rfl ?_); refine put_event (s := ⟨#[110, 111, 110, 101]⟩) rfl ?hg ?hd (m := w.heap.size) (es := #[]) (es' := #[{ key := .string ⟨#[110, 111, 110, 101]⟩, val := .agg #[.int .i64 0, .func (.func 96) #[] #[]], born := 0 }]) (clock := 0) (val := .agg #[.int .i64 0, .func (.func 96) #[] #[]]) Try.underlying151 Try.underlying9 ?hx ?hv m0 ?hf ?he ?_; (case hg => rfl); (case hd => rfl); (case hx => rfl); (case hv => rfl); (case hf => kernel_rfl); (case he => rfl); intro w1 hw1; have m1 := map_put (es' := #[{ key := .string ⟨#[110, 111, 110, 101]⟩, val := .agg #[.int .i64 0, .func (.func 96) #[] #[]], born := 0 }]) (c' := 1) m0; have hB1 := below_put (es' := #[{ key := .string ⟨#[110, 111, 110, 101]⟩, val := .agg #[.int .i64 0, .func (.func 96) #[] #[]], born := 0 }]) (c' := 1) hB0 (Nat.le_refl _) m0 (Nat.le_refl _); rw [← hw1] at m1 hB1; clear hw1) | ((with_reducible refine gate_key (s := ⟨#[115, 117, 109]⟩) rfl ?_); refine put_event (s := ⟨#[115, 117, 109]⟩) rfl ?hg ?hd (m := w.heap.size) (es := #[{ key := .string ⟨#[110, 111, 110, 101]⟩, val := .agg #[.int .i64 0, .func (.func 96) #[] #[]], born := 0 }]) (es' := #[{ key := .string ⟨#[110, 111, 110, 101]⟩, val := .agg #[.int .i64 0, .func (.func 96) #[] #[]], born := 0 }, { key := .string ⟨#[115, 117, 109]⟩, val := .agg #[.int .i64 1, .func (.func 96) #[] #[]], born := 1 }]) (clock := 1) (val := .agg #[.int .i64 1, .func (.func 96) #[] #[]]) Try.underlying151 Try.underlying9 ?hx ?hv m1 ?hf ?he ?_; (case hg => rfl); (case hd => rfl); (case hx => rfl); (case hv => rfl); (case hf => kernel_rfl); (case he => rfl); intro w2 hw2; have m2 := map_put (es' := #[{ key := .string ⟨#[110, 111, 110, 101]⟩, val := .agg #[.int .i64 0, .func (.func 96) #[] #[]], born := 0 }, { key := .string ⟨#[115, 117, 109]⟩, val := .agg #[.int .i64 1, .func (.func 96) #[] #[]], born := 1 }]) (c' := 2) m1; have hB2 := below_put (es' := #[{ key := .string ⟨#[110, 111, 110, 101]⟩, val := .agg #[.int .i64 0, .func (.func 96) #[] #[]], born := 0 }, { key := .string ⟨#[115, 117, 109]⟩, val := .agg #[.int .i64 1, .func (.func 96) #[] #[]], born := 1 }]) (c' := 2) hB1 (Nat.le_refl _) m1 (Nat.le_refl _); rw [← hw2] at m2 hB2; clear hw2) | ((with_reducible refine gate_key (s := ⟨#[108, 114, 99]⟩) rfl ?_); refine put_event (s := ⟨#[108, 114, 99]⟩) rfl ?hg ?hd (m := w.heap.size) (es := #[{ key := .string ⟨#[110, 111, 110, 101]⟩, val := .agg #[.int .i64 0, .func (.func 96) #[] #[]], born := 0 }, { key := .string ⟨#[115, 117, 109]⟩, val := .agg #[.int .i64 1, .func (.func 96) #[] #[]], born := 1 }]) (es' := #[{ key := .string ⟨#[110, 111, 110, 101]⟩, val := .agg #[.int .i64 0, .func (.func 96) #[] #[]], born := 0 }, { key := .string ⟨#[115, 117, 109]⟩, val := .agg #[.int .i64 1, .func (.func 96) #[] #[]], born := 1 }, { key := .string ⟨#[108, 114, 99]⟩, val := .agg #[.int .i64 1, .func (.func 97) #[] #[]], born := 2 }]) (clock := 2) (val := .agg #[.int .i64 1, .func (.func 97) #[] #[]]) Try.underlying151 Try.underlying9 ?hx ?hv m2 ?hf ?he ?_; (case hg => rfl); (case hd => rfl); (case hx => rfl); (case hv => rfl); (case hf => kernel_rfl); (case he => rfl); intro w3 hw3; have m3 := map_put (es' := #[{ key := .string ⟨#[110, 111, 110, 101]⟩, val := .agg #[.int .i64 0, .func (.func 96) #[] #[]], born := 0 }, { key := .string ⟨#[115, 117, 109]⟩, val := .agg #[.int .i64 1, .func (.func 96) #[] #[]], born := 1 }, { key := .string ⟨#[108, 114, 99]⟩, val := .agg #[.int .i64 1, .func (.func 97) #[] #[]], born := 2 }]) (c' := 3) m2; have hB3 := below_put (es' := #[{ key := .string ⟨#[110, 111, 110, 101]⟩, val := .agg #[.int .i64 0, .func (.func 96) #[] #[]], born := 0 }, { key := .string ⟨#[115, 117, 109]⟩, val := .agg #[.int .i64 1, .func (.func 96) #[] #[]], born := 1 }, { key := .string ⟨#[108, 114, 99]⟩, val := .agg #[.int .i64 1, .func (.func 97) #[] #[]], born := 2 }]) (c' := 3) hB2 (Nat.le_refl _) m2 (Nat.le_refl _); rw [← hw3] at m3 hB3; clear hw3) | ((with_reducible refine gate_key (s := ⟨#[120, 111, 114]⟩) rfl ?_); refine put_event (s := ⟨#[120, 111, 114]⟩) rfl ?hg ?hd (m := w.heap.size) (es := #[{ key := .string ⟨#[110, 111, 110, 101]⟩, val := .agg #[.int .i64 0, .func (.func 96) #[] #[]], born := 0 }, { key := .string ⟨#[115, 117, 109]⟩, val := .agg #[.int .i64 1, .func (.func 96) #[] #[]], born := 1 }, { key := .string ⟨#[108, 114, 99]⟩, val := .agg #[.int .i64 1, .func (.func 97) #[] #[]], born := 2 }]) (es' := #[{ key := .string ⟨#[110, 111, 110, 101]⟩, val := .agg #[.int .i64 0, .func (.func 96) #[] #[]], born := 0 }, { key := .string ⟨#[115, 117, 109]⟩, val := .agg #[.int .i64 1, .func (.func 96) #[] #[]], born := 1 }, { key := .string ⟨#[108, 114, 99]⟩, val := .agg #[.int .i64 1, .func (.func 97) #[] #[]], born := 2 }, { key := .string ⟨#[120, 111, 114]⟩, val := .agg #[.int .i64 1, .func (.func 98) #[] #[]], born := 3 }]) (clock := 3) (val := .agg #[.int .i64 1, .func (.func 98) #[] #[]]) Try.underlying151 Try.underlying9 ?hx ?hv m3 ?hf ?he ?_; (case hg => rfl); (case hd => rfl); (case hx => rfl); (case hv => rfl); (case hf => kernel_rfl); (case he => rfl); intro w4 hw4; have m4 := map_put (es' := #[{ key := .string ⟨#[110, 111, 110, 101]⟩, val := .agg #[.int .i64 0, .func (.func 96) #[] #[]], born := 0 }, { key := .string ⟨#[115, 117, 109]⟩, val := .agg #[.int .i64 1, .func (.func 96) #[] #[]], born := 1 }, { key := .string ⟨#[108, 114, 99]⟩, val := .agg #[.int .i64 1, .func (.func 97) #[] #[]], born := 2 }, { key := .string ⟨#[120, 111, 114]⟩, val := .agg #[.int .i64 1, .func (.func 98) #[] #[]], born := 3 }]) (c' := 4) m3; have hB4 := below_put (es' := #[{ key := .string ⟨#[110, 111, 110, 101]⟩, val := .agg #[.int .i64 0, .func (.func 96) #[] #[]], born := 0 }, { key := .string ⟨#[115, 117, 109]⟩, val := .agg #[.int .i64 1, .func (.func 96) #[] #[]], born := 1 }, { key := .string ⟨#[108, 114, 99]⟩, val := .agg #[.int .i64 1, .func (.func 97) #[] #[]], born := 2 }, { key := .string ⟨#[120, 111, 114]⟩, val := .agg #[.int .i64 1, .func (.func 98) #[] #[]], born := 3 }]) (c' := 4) hB3 (Nat.le_refl _) m3 (Nat.le_refl _); rw [← hw4] at m4 hB4; clear hw4) | ((with_reducible refine gate_key (s := ⟨#[102, 108, 101, 116, 99, 104, 101, 114]⟩) rfl ?_); refine put_event (s := ⟨#[102, 108, 101, 116, 99, 104, 101, 114]⟩) rfl ?hg ?hd (m := w.heap.size) (es := #[{ key := .string ⟨#[110, 111, 110, 101]⟩, val := .agg #[.int .i64 0, .func (.func 96) #[] #[]], born := 0 }, { key := .string ⟨#[115, 117, 109]⟩, val := .agg #[.int .i64 1, .func (.func 96) #[] #[]], born := 1 }, { key := .string ⟨#[108, 114, 99]⟩, val := .agg #[.int .i64 1, .func (.func 97) #[] #[]], born := 2 }, { key := .string ⟨#[120, 111, 114]⟩, val := .agg #[.int .i64 1, .func (.func 98) #[] #[]], born := 3 }]) (es' := #[{ key := .string ⟨#[110, 111, 110, 101]⟩, val := .agg #[.int .i64 0, .func (.func 96) #[] #[]], born := 0 }, { key := .string ⟨#[115, 117, 109]⟩, val := .agg #[.int .i64 1, .func (.func 96) #[] #[]], born := 1 }, { key := .string ⟨#[108, 114, 99]⟩, val := .agg #[.int .i64 1, .func (.func 97) #[] #[]], born := 2 }, { key := .string ⟨#[120, 111, 114]⟩, val := .agg #[.int .i64 1, .func (.func 98) #[] #[]], born := 3 }, { key := .string ⟨#[102, 108, 101, 116, 99, 104, 101, 114]⟩, val := .agg #[.int .i64 2, .func (.func 99) #[] #[]], born := 4 }]) (clock := 4) (val := .agg #[.int .i64 2, .func (.func 99) #[] #[]]) Try.underlying151 Try.underlying9 ?hx ?hv m4 ?hf ?he ?_; (case hg => rfl); (case hd => rfl); (case hx => rfl); (case hv => rfl); (case hf => kernel_rfl); (case he => rfl); intro w5 hw5; have m5 := map_put (es' := #[{ key := .string ⟨#[110, 111, 110, 101]⟩, val := .agg #[.int .i64 0, .func (.func 96) #[] #[]], born := 0 }, { key := .string ⟨#[115, 117, 109]⟩, val := .agg #[.int .i64 1, .func (.func 96) #[] #[]], born := 1 }, { key := .string ⟨#[108, 114, 99]⟩, val := .agg #[.int .i64 1, .func (.func 97) #[] #[]], born := 2 }, { key := .string ⟨#[120, 111, 114]⟩, val := .agg #[.int .i64 1, .func (.func 98) #[] #[]], born := 3 }, { key := .string ⟨#[102, 108, 101, 116, 99, 104, 101, 114]⟩, val := .agg #[.int .i64 2, .func (.func 99) #[] #[]], born := 4 }]) (c' := 5) m4; have hB5 := below_put (es' := #[{ key := .string ⟨#[110, 111, 110, 101]⟩, val := .agg #[.int .i64 0, .func (.func 96) #[] #[]], born := 0 }, { key := .string ⟨#[115, 117, 109]⟩, val := .agg #[.int .i64 1, .func (.func 96) #[] #[]], born := 1 }, { key := .string ⟨#[108, 114, 99]⟩, val := .agg #[.int .i64 1, .func (.func 97) #[] #[]], born := 2 }, { key := .string ⟨#[120, 111, 114]⟩, val := .agg #[.int .i64 1, .func (.func 98) #[] #[]], born := 3 }, { key := .string ⟨#[102, 108, 101, 116, 99, 104, 101, 114]⟩, val := .agg #[.int .i64 2, .func (.func 99) #[] #[]], born := 4 }]) (c' := 5) hB4 (Nat.le_refl _) m4 (Nat.le_refl _); rw [← hw5] at m5 hB5; clear hw5) | fail)
  refine (divided_calls (s := ⟨#[99, 114, 99, 56]⟩) (w := 8) (p := 7) (f := 0) (t := false) (last := 0) (by kernel_rfl) _).mono ?_
  rintro e wd1 ⟨b1, rfl, hbb1, k1, hb_⟩
  replace m5 := blk_below m5 hb_
  replace hB5 := bthen hB5 hb_
  clear hb_ hbb1
  simp only [dv]
  go_wp2_with ((with_reducible refine gate_key (s := ⟨#[99, 114, 99, 56]⟩) rfl ?_); refine put_event (s := ⟨#[99, 114, 99, 56]⟩) rfl ?hg ?hd (m := w.heap.size) (es := #[{ key := .string ⟨#[110, 111, 110, 101]⟩, val := .agg #[.int .i64 0, .func (.func 96) #[] #[]], born := 0 }, { key := .string ⟨#[115, 117, 109]⟩, val := .agg #[.int .i64 1, .func (.func 96) #[] #[]], born := 1 }, { key := .string ⟨#[108, 114, 99]⟩, val := .agg #[.int .i64 1, .func (.func 97) #[] #[]], born := 2 }, { key := .string ⟨#[120, 111, 114]⟩, val := .agg #[.int .i64 1, .func (.func 98) #[] #[]], born := 3 }, { key := .string ⟨#[102, 108, 101, 116, 99, 104, 101, 114]⟩, val := .agg #[.int .i64 2, .func (.func 99) #[] #[]], born := 4 }]) (es' := #[{ key := .string ⟨#[110, 111, 110, 101]⟩, val := .agg #[.int .i64 0, .func (.func 96) #[] #[]], born := 0 }, { key := .string ⟨#[115, 117, 109]⟩, val := .agg #[.int .i64 1, .func (.func 96) #[] #[]], born := 1 }, { key := .string ⟨#[108, 114, 99]⟩, val := .agg #[.int .i64 1, .func (.func 97) #[] #[]], born := 2 }, { key := .string ⟨#[120, 111, 114]⟩, val := .agg #[.int .i64 1, .func (.func 98) #[] #[]], born := 3 }, { key := .string ⟨#[102, 108, 101, 116, 99, 104, 101, 114]⟩, val := .agg #[.int .i64 2, .func (.func 99) #[] #[]], born := 4 }, { key := .string ⟨#[99, 114, 99, 56]⟩, val := .agg #[.int .i64 1, .func (.func 103) #[] #[.pointer (some ⟨b1, 0, none⟩)]], born := 5 }]) (clock := 5) (val := .agg #[.int .i64 1, .func (.func 103) #[] #[.pointer (some ⟨b1, 0, none⟩)]]) Try.underlying151 Try.underlying9 ?hx ?hv m5 ?hf ?he ?_; (case hg => rfl); (case hd => rfl); (case hx => rfl); (case hv => rfl); (case hf => kernel_rfl); (case he => rfl); intro w6 hw6; have m6 := map_put (es' := #[{ key := .string ⟨#[110, 111, 110, 101]⟩, val := .agg #[.int .i64 0, .func (.func 96) #[] #[]], born := 0 }, { key := .string ⟨#[115, 117, 109]⟩, val := .agg #[.int .i64 1, .func (.func 96) #[] #[]], born := 1 }, { key := .string ⟨#[108, 114, 99]⟩, val := .agg #[.int .i64 1, .func (.func 97) #[] #[]], born := 2 }, { key := .string ⟨#[120, 111, 114]⟩, val := .agg #[.int .i64 1, .func (.func 98) #[] #[]], born := 3 }, { key := .string ⟨#[102, 108, 101, 116, 99, 104, 101, 114]⟩, val := .agg #[.int .i64 2, .func (.func 99) #[] #[]], born := 4 }, { key := .string ⟨#[99, 114, 99, 56]⟩, val := .agg #[.int .i64 1, .func (.func 103) #[] #[.pointer (some ⟨b1, 0, none⟩)]], born := 5 }]) (c' := 6) m5; have hB6 := below_put (es' := #[{ key := .string ⟨#[110, 111, 110, 101]⟩, val := .agg #[.int .i64 0, .func (.func 96) #[] #[]], born := 0 }, { key := .string ⟨#[115, 117, 109]⟩, val := .agg #[.int .i64 1, .func (.func 96) #[] #[]], born := 1 }, { key := .string ⟨#[108, 114, 99]⟩, val := .agg #[.int .i64 1, .func (.func 97) #[] #[]], born := 2 }, { key := .string ⟨#[120, 111, 114]⟩, val := .agg #[.int .i64 1, .func (.func 98) #[] #[]], born := 3 }, { key := .string ⟨#[102, 108, 101, 116, 99, 104, 101, 114]⟩, val := .agg #[.int .i64 2, .func (.func 99) #[] #[]], born := 4 }, { key := .string ⟨#[99, 114, 99, 56]⟩, val := .agg #[.int .i64 1, .func (.func 103) #[] #[.pointer (some ⟨b1, 0, none⟩)]], born := 5 }]) (c' := 6) hB5 (Nat.le_refl _) m5 (Nat.le_refl _); rw [← hw6] at m6 hB6; replace k1 := cells_put (es' := #[{ key := .string ⟨#[110, 111, 110, 101]⟩, val := .agg #[.int .i64 0, .func (.func 96) #[] #[]], born := 0 }, { key := .string ⟨#[115, 117, 109]⟩, val := .agg #[.int .i64 1, .func (.func 96) #[] #[]], born := 1 }, { key := .string ⟨#[108, 114, 99]⟩, val := .agg #[.int .i64 1, .func (.func 97) #[] #[]], born := 2 }, { key := .string ⟨#[120, 111, 114]⟩, val := .agg #[.int .i64 1, .func (.func 98) #[] #[]], born := 3 }, { key := .string ⟨#[102, 108, 101, 116, 99, 104, 101, 114]⟩, val := .agg #[.int .i64 2, .func (.func 99) #[] #[]], born := 4 }, { key := .string ⟨#[99, 114, 99, 56]⟩, val := .agg #[.int .i64 1, .func (.func 103) #[] #[.pointer (some ⟨b1, 0, none⟩)]], born := 5 }]) (c' := 6) k1 m5; rw [← hw6] at k1; clear hw6)
  refine (divided_calls (s := ⟨#[99, 114, 99, 49, 54]⟩) (w := 16) (p := 32773) (f := 0) (t := true) (last := 0) (by kernel_rfl) _).mono ?_
  rintro e wd2 ⟨b2, rfl, hbb2, k2, hb_⟩
  replace m6 := blk_below m6 hb_
  replace hB6 := bthen hB6 hb_
  replace k1 := blk_below k1 hb_
  clear hb_ hbb2
  simp only [dv]
  go_wp2_with ((with_reducible refine gate_key (s := ⟨#[99, 114, 99, 49, 54]⟩) rfl ?_); refine put_event (s := ⟨#[99, 114, 99, 49, 54]⟩) rfl ?hg ?hd (m := w.heap.size) (es := #[{ key := .string ⟨#[110, 111, 110, 101]⟩, val := .agg #[.int .i64 0, .func (.func 96) #[] #[]], born := 0 }, { key := .string ⟨#[115, 117, 109]⟩, val := .agg #[.int .i64 1, .func (.func 96) #[] #[]], born := 1 }, { key := .string ⟨#[108, 114, 99]⟩, val := .agg #[.int .i64 1, .func (.func 97) #[] #[]], born := 2 }, { key := .string ⟨#[120, 111, 114]⟩, val := .agg #[.int .i64 1, .func (.func 98) #[] #[]], born := 3 }, { key := .string ⟨#[102, 108, 101, 116, 99, 104, 101, 114]⟩, val := .agg #[.int .i64 2, .func (.func 99) #[] #[]], born := 4 }, { key := .string ⟨#[99, 114, 99, 56]⟩, val := .agg #[.int .i64 1, .func (.func 103) #[] #[.pointer (some ⟨b1, 0, none⟩)]], born := 5 }]) (es' := #[{ key := .string ⟨#[110, 111, 110, 101]⟩, val := .agg #[.int .i64 0, .func (.func 96) #[] #[]], born := 0 }, { key := .string ⟨#[115, 117, 109]⟩, val := .agg #[.int .i64 1, .func (.func 96) #[] #[]], born := 1 }, { key := .string ⟨#[108, 114, 99]⟩, val := .agg #[.int .i64 1, .func (.func 97) #[] #[]], born := 2 }, { key := .string ⟨#[120, 111, 114]⟩, val := .agg #[.int .i64 1, .func (.func 98) #[] #[]], born := 3 }, { key := .string ⟨#[102, 108, 101, 116, 99, 104, 101, 114]⟩, val := .agg #[.int .i64 2, .func (.func 99) #[] #[]], born := 4 }, { key := .string ⟨#[99, 114, 99, 56]⟩, val := .agg #[.int .i64 1, .func (.func 103) #[] #[.pointer (some ⟨b1, 0, none⟩)]], born := 5 }, { key := .string ⟨#[99, 114, 99, 49, 54]⟩, val := .agg #[.int .i64 2, .func (.func 103) #[] #[.pointer (some ⟨b2, 0, none⟩)]], born := 6 }]) (clock := 6) (val := .agg #[.int .i64 2, .func (.func 103) #[] #[.pointer (some ⟨b2, 0, none⟩)]]) Try.underlying151 Try.underlying9 ?hx ?hv m6 ?hf ?he ?_; (case hg => rfl); (case hd => rfl); (case hx => rfl); (case hv => rfl); (case hf => kernel_rfl); (case he => rfl); intro w7 hw7; have m7 := map_put (es' := #[{ key := .string ⟨#[110, 111, 110, 101]⟩, val := .agg #[.int .i64 0, .func (.func 96) #[] #[]], born := 0 }, { key := .string ⟨#[115, 117, 109]⟩, val := .agg #[.int .i64 1, .func (.func 96) #[] #[]], born := 1 }, { key := .string ⟨#[108, 114, 99]⟩, val := .agg #[.int .i64 1, .func (.func 97) #[] #[]], born := 2 }, { key := .string ⟨#[120, 111, 114]⟩, val := .agg #[.int .i64 1, .func (.func 98) #[] #[]], born := 3 }, { key := .string ⟨#[102, 108, 101, 116, 99, 104, 101, 114]⟩, val := .agg #[.int .i64 2, .func (.func 99) #[] #[]], born := 4 }, { key := .string ⟨#[99, 114, 99, 56]⟩, val := .agg #[.int .i64 1, .func (.func 103) #[] #[.pointer (some ⟨b1, 0, none⟩)]], born := 5 }, { key := .string ⟨#[99, 114, 99, 49, 54]⟩, val := .agg #[.int .i64 2, .func (.func 103) #[] #[.pointer (some ⟨b2, 0, none⟩)]], born := 6 }]) (c' := 7) m6; have hB7 := below_put (es' := #[{ key := .string ⟨#[110, 111, 110, 101]⟩, val := .agg #[.int .i64 0, .func (.func 96) #[] #[]], born := 0 }, { key := .string ⟨#[115, 117, 109]⟩, val := .agg #[.int .i64 1, .func (.func 96) #[] #[]], born := 1 }, { key := .string ⟨#[108, 114, 99]⟩, val := .agg #[.int .i64 1, .func (.func 97) #[] #[]], born := 2 }, { key := .string ⟨#[120, 111, 114]⟩, val := .agg #[.int .i64 1, .func (.func 98) #[] #[]], born := 3 }, { key := .string ⟨#[102, 108, 101, 116, 99, 104, 101, 114]⟩, val := .agg #[.int .i64 2, .func (.func 99) #[] #[]], born := 4 }, { key := .string ⟨#[99, 114, 99, 56]⟩, val := .agg #[.int .i64 1, .func (.func 103) #[] #[.pointer (some ⟨b1, 0, none⟩)]], born := 5 }, { key := .string ⟨#[99, 114, 99, 49, 54]⟩, val := .agg #[.int .i64 2, .func (.func 103) #[] #[.pointer (some ⟨b2, 0, none⟩)]], born := 6 }]) (c' := 7) hB6 (Nat.le_refl _) m6 (Nat.le_refl _); rw [← hw7] at m7 hB7; replace k1 := cells_put (es' := #[{ key := .string ⟨#[110, 111, 110, 101]⟩, val := .agg #[.int .i64 0, .func (.func 96) #[] #[]], born := 0 }, { key := .string ⟨#[115, 117, 109]⟩, val := .agg #[.int .i64 1, .func (.func 96) #[] #[]], born := 1 }, { key := .string ⟨#[108, 114, 99]⟩, val := .agg #[.int .i64 1, .func (.func 97) #[] #[]], born := 2 }, { key := .string ⟨#[120, 111, 114]⟩, val := .agg #[.int .i64 1, .func (.func 98) #[] #[]], born := 3 }, { key := .string ⟨#[102, 108, 101, 116, 99, 104, 101, 114]⟩, val := .agg #[.int .i64 2, .func (.func 99) #[] #[]], born := 4 }, { key := .string ⟨#[99, 114, 99, 56]⟩, val := .agg #[.int .i64 1, .func (.func 103) #[] #[.pointer (some ⟨b1, 0, none⟩)]], born := 5 }, { key := .string ⟨#[99, 114, 99, 49, 54]⟩, val := .agg #[.int .i64 2, .func (.func 103) #[] #[.pointer (some ⟨b2, 0, none⟩)]], born := 6 }]) (c' := 7) k1 m6; rw [← hw7] at k1; replace k2 := cells_put (es' := #[{ key := .string ⟨#[110, 111, 110, 101]⟩, val := .agg #[.int .i64 0, .func (.func 96) #[] #[]], born := 0 }, { key := .string ⟨#[115, 117, 109]⟩, val := .agg #[.int .i64 1, .func (.func 96) #[] #[]], born := 1 }, { key := .string ⟨#[108, 114, 99]⟩, val := .agg #[.int .i64 1, .func (.func 97) #[] #[]], born := 2 }, { key := .string ⟨#[120, 111, 114]⟩, val := .agg #[.int .i64 1, .func (.func 98) #[] #[]], born := 3 }, { key := .string ⟨#[102, 108, 101, 116, 99, 104, 101, 114]⟩, val := .agg #[.int .i64 2, .func (.func 99) #[] #[]], born := 4 }, { key := .string ⟨#[99, 114, 99, 56]⟩, val := .agg #[.int .i64 1, .func (.func 103) #[] #[.pointer (some ⟨b1, 0, none⟩)]], born := 5 }, { key := .string ⟨#[99, 114, 99, 49, 54]⟩, val := .agg #[.int .i64 2, .func (.func 103) #[] #[.pointer (some ⟨b2, 0, none⟩)]], born := 6 }]) (c' := 7) k2 m6; rw [← hw7] at k2; clear hw7)
  refine (divided_calls (s := ⟨#[99, 99, 105, 116, 116]⟩) (w := 16) (p := 4129) (f := 65535) (t := false) (last := 0) (by kernel_rfl) _).mono ?_
  rintro e wd3 ⟨b3, rfl, hbb3, k3, hb_⟩
  replace m7 := blk_below m7 hb_
  replace hB7 := bthen hB7 hb_
  replace k1 := blk_below k1 hb_
  replace k2 := blk_below k2 hb_
  clear hb_ hbb3
  simp only [dv]
  go_wp2_with ((with_reducible refine gate_key (s := ⟨#[99, 99, 105, 116, 116]⟩) rfl ?_); refine put_event (s := ⟨#[99, 99, 105, 116, 116]⟩) rfl ?hg ?hd (m := w.heap.size) (es := #[{ key := .string ⟨#[110, 111, 110, 101]⟩, val := .agg #[.int .i64 0, .func (.func 96) #[] #[]], born := 0 }, { key := .string ⟨#[115, 117, 109]⟩, val := .agg #[.int .i64 1, .func (.func 96) #[] #[]], born := 1 }, { key := .string ⟨#[108, 114, 99]⟩, val := .agg #[.int .i64 1, .func (.func 97) #[] #[]], born := 2 }, { key := .string ⟨#[120, 111, 114]⟩, val := .agg #[.int .i64 1, .func (.func 98) #[] #[]], born := 3 }, { key := .string ⟨#[102, 108, 101, 116, 99, 104, 101, 114]⟩, val := .agg #[.int .i64 2, .func (.func 99) #[] #[]], born := 4 }, { key := .string ⟨#[99, 114, 99, 56]⟩, val := .agg #[.int .i64 1, .func (.func 103) #[] #[.pointer (some ⟨b1, 0, none⟩)]], born := 5 }, { key := .string ⟨#[99, 114, 99, 49, 54]⟩, val := .agg #[.int .i64 2, .func (.func 103) #[] #[.pointer (some ⟨b2, 0, none⟩)]], born := 6 }]) (es' := #[{ key := .string ⟨#[110, 111, 110, 101]⟩, val := .agg #[.int .i64 0, .func (.func 96) #[] #[]], born := 0 }, { key := .string ⟨#[115, 117, 109]⟩, val := .agg #[.int .i64 1, .func (.func 96) #[] #[]], born := 1 }, { key := .string ⟨#[108, 114, 99]⟩, val := .agg #[.int .i64 1, .func (.func 97) #[] #[]], born := 2 }, { key := .string ⟨#[120, 111, 114]⟩, val := .agg #[.int .i64 1, .func (.func 98) #[] #[]], born := 3 }, { key := .string ⟨#[102, 108, 101, 116, 99, 104, 101, 114]⟩, val := .agg #[.int .i64 2, .func (.func 99) #[] #[]], born := 4 }, { key := .string ⟨#[99, 114, 99, 56]⟩, val := .agg #[.int .i64 1, .func (.func 103) #[] #[.pointer (some ⟨b1, 0, none⟩)]], born := 5 }, { key := .string ⟨#[99, 114, 99, 49, 54]⟩, val := .agg #[.int .i64 2, .func (.func 103) #[] #[.pointer (some ⟨b2, 0, none⟩)]], born := 6 }, { key := .string ⟨#[99, 99, 105, 116, 116]⟩, val := .agg #[.int .i64 2, .func (.func 103) #[] #[.pointer (some ⟨b3, 0, none⟩)]], born := 7 }]) (clock := 7) (val := .agg #[.int .i64 2, .func (.func 103) #[] #[.pointer (some ⟨b3, 0, none⟩)]]) Try.underlying151 Try.underlying9 ?hx ?hv m7 ?hf ?he ?_; (case hg => rfl); (case hd => rfl); (case hx => rfl); (case hv => rfl); (case hf => kernel_rfl); (case he => rfl); intro w8 hw8; have m8 := map_put (es' := #[{ key := .string ⟨#[110, 111, 110, 101]⟩, val := .agg #[.int .i64 0, .func (.func 96) #[] #[]], born := 0 }, { key := .string ⟨#[115, 117, 109]⟩, val := .agg #[.int .i64 1, .func (.func 96) #[] #[]], born := 1 }, { key := .string ⟨#[108, 114, 99]⟩, val := .agg #[.int .i64 1, .func (.func 97) #[] #[]], born := 2 }, { key := .string ⟨#[120, 111, 114]⟩, val := .agg #[.int .i64 1, .func (.func 98) #[] #[]], born := 3 }, { key := .string ⟨#[102, 108, 101, 116, 99, 104, 101, 114]⟩, val := .agg #[.int .i64 2, .func (.func 99) #[] #[]], born := 4 }, { key := .string ⟨#[99, 114, 99, 56]⟩, val := .agg #[.int .i64 1, .func (.func 103) #[] #[.pointer (some ⟨b1, 0, none⟩)]], born := 5 }, { key := .string ⟨#[99, 114, 99, 49, 54]⟩, val := .agg #[.int .i64 2, .func (.func 103) #[] #[.pointer (some ⟨b2, 0, none⟩)]], born := 6 }, { key := .string ⟨#[99, 99, 105, 116, 116]⟩, val := .agg #[.int .i64 2, .func (.func 103) #[] #[.pointer (some ⟨b3, 0, none⟩)]], born := 7 }]) (c' := 8) m7; have hB8 := below_put (es' := #[{ key := .string ⟨#[110, 111, 110, 101]⟩, val := .agg #[.int .i64 0, .func (.func 96) #[] #[]], born := 0 }, { key := .string ⟨#[115, 117, 109]⟩, val := .agg #[.int .i64 1, .func (.func 96) #[] #[]], born := 1 }, { key := .string ⟨#[108, 114, 99]⟩, val := .agg #[.int .i64 1, .func (.func 97) #[] #[]], born := 2 }, { key := .string ⟨#[120, 111, 114]⟩, val := .agg #[.int .i64 1, .func (.func 98) #[] #[]], born := 3 }, { key := .string ⟨#[102, 108, 101, 116, 99, 104, 101, 114]⟩, val := .agg #[.int .i64 2, .func (.func 99) #[] #[]], born := 4 }, { key := .string ⟨#[99, 114, 99, 56]⟩, val := .agg #[.int .i64 1, .func (.func 103) #[] #[.pointer (some ⟨b1, 0, none⟩)]], born := 5 }, { key := .string ⟨#[99, 114, 99, 49, 54]⟩, val := .agg #[.int .i64 2, .func (.func 103) #[] #[.pointer (some ⟨b2, 0, none⟩)]], born := 6 }, { key := .string ⟨#[99, 99, 105, 116, 116]⟩, val := .agg #[.int .i64 2, .func (.func 103) #[] #[.pointer (some ⟨b3, 0, none⟩)]], born := 7 }]) (c' := 8) hB7 (Nat.le_refl _) m7 (Nat.le_refl _); rw [← hw8] at m8 hB8; replace k1 := cells_put (es' := #[{ key := .string ⟨#[110, 111, 110, 101]⟩, val := .agg #[.int .i64 0, .func (.func 96) #[] #[]], born := 0 }, { key := .string ⟨#[115, 117, 109]⟩, val := .agg #[.int .i64 1, .func (.func 96) #[] #[]], born := 1 }, { key := .string ⟨#[108, 114, 99]⟩, val := .agg #[.int .i64 1, .func (.func 97) #[] #[]], born := 2 }, { key := .string ⟨#[120, 111, 114]⟩, val := .agg #[.int .i64 1, .func (.func 98) #[] #[]], born := 3 }, { key := .string ⟨#[102, 108, 101, 116, 99, 104, 101, 114]⟩, val := .agg #[.int .i64 2, .func (.func 99) #[] #[]], born := 4 }, { key := .string ⟨#[99, 114, 99, 56]⟩, val := .agg #[.int .i64 1, .func (.func 103) #[] #[.pointer (some ⟨b1, 0, none⟩)]], born := 5 }, { key := .string ⟨#[99, 114, 99, 49, 54]⟩, val := .agg #[.int .i64 2, .func (.func 103) #[] #[.pointer (some ⟨b2, 0, none⟩)]], born := 6 }, { key := .string ⟨#[99, 99, 105, 116, 116]⟩, val := .agg #[.int .i64 2, .func (.func 103) #[] #[.pointer (some ⟨b3, 0, none⟩)]], born := 7 }]) (c' := 8) k1 m7; rw [← hw8] at k1; replace k2 := cells_put (es' := #[{ key := .string ⟨#[110, 111, 110, 101]⟩, val := .agg #[.int .i64 0, .func (.func 96) #[] #[]], born := 0 }, { key := .string ⟨#[115, 117, 109]⟩, val := .agg #[.int .i64 1, .func (.func 96) #[] #[]], born := 1 }, { key := .string ⟨#[108, 114, 99]⟩, val := .agg #[.int .i64 1, .func (.func 97) #[] #[]], born := 2 }, { key := .string ⟨#[120, 111, 114]⟩, val := .agg #[.int .i64 1, .func (.func 98) #[] #[]], born := 3 }, { key := .string ⟨#[102, 108, 101, 116, 99, 104, 101, 114]⟩, val := .agg #[.int .i64 2, .func (.func 99) #[] #[]], born := 4 }, { key := .string ⟨#[99, 114, 99, 56]⟩, val := .agg #[.int .i64 1, .func (.func 103) #[] #[.pointer (some ⟨b1, 0, none⟩)]], born := 5 }, { key := .string ⟨#[99, 114, 99, 49, 54]⟩, val := .agg #[.int .i64 2, .func (.func 103) #[] #[.pointer (some ⟨b2, 0, none⟩)]], born := 6 }, { key := .string ⟨#[99, 99, 105, 116, 116]⟩, val := .agg #[.int .i64 2, .func (.func 103) #[] #[.pointer (some ⟨b3, 0, none⟩)]], born := 7 }]) (c' := 8) k2 m7; rw [← hw8] at k2; replace k3 := cells_put (es' := #[{ key := .string ⟨#[110, 111, 110, 101]⟩, val := .agg #[.int .i64 0, .func (.func 96) #[] #[]], born := 0 }, { key := .string ⟨#[115, 117, 109]⟩, val := .agg #[.int .i64 1, .func (.func 96) #[] #[]], born := 1 }, { key := .string ⟨#[108, 114, 99]⟩, val := .agg #[.int .i64 1, .func (.func 97) #[] #[]], born := 2 }, { key := .string ⟨#[120, 111, 114]⟩, val := .agg #[.int .i64 1, .func (.func 98) #[] #[]], born := 3 }, { key := .string ⟨#[102, 108, 101, 116, 99, 104, 101, 114]⟩, val := .agg #[.int .i64 2, .func (.func 99) #[] #[]], born := 4 }, { key := .string ⟨#[99, 114, 99, 56]⟩, val := .agg #[.int .i64 1, .func (.func 103) #[] #[.pointer (some ⟨b1, 0, none⟩)]], born := 5 }, { key := .string ⟨#[99, 114, 99, 49, 54]⟩, val := .agg #[.int .i64 2, .func (.func 103) #[] #[.pointer (some ⟨b2, 0, none⟩)]], born := 6 }, { key := .string ⟨#[99, 99, 105, 116, 116]⟩, val := .agg #[.int .i64 2, .func (.func 103) #[] #[.pointer (some ⟨b3, 0, none⟩)]], born := 7 }]) (c' := 8) k3 m7; rw [← hw8] at k3; clear hw8)
  refine (divided_calls (s := ⟨#[99, 114, 99, 51, 50]⟩) (w := 32) (p := 79764919) (f := 4294967295) (t := true) (last := 4294967295) (by kernel_rfl) _).mono ?_
  rintro e wd4 ⟨b4, rfl, hbb4, k4, hb_⟩
  replace m8 := blk_below m8 hb_
  replace hB8 := bthen hB8 hb_
  replace k1 := blk_below k1 hb_
  replace k2 := blk_below k2 hb_
  replace k3 := blk_below k3 hb_
  clear hb_ hbb4
  simp only [dv]
  go_wp2_with ((with_reducible refine gate_key (s := ⟨#[99, 114, 99, 51, 50]⟩) rfl ?_); refine put_event (s := ⟨#[99, 114, 99, 51, 50]⟩) rfl ?hg ?hd (m := w.heap.size) (es := #[{ key := .string ⟨#[110, 111, 110, 101]⟩, val := .agg #[.int .i64 0, .func (.func 96) #[] #[]], born := 0 }, { key := .string ⟨#[115, 117, 109]⟩, val := .agg #[.int .i64 1, .func (.func 96) #[] #[]], born := 1 }, { key := .string ⟨#[108, 114, 99]⟩, val := .agg #[.int .i64 1, .func (.func 97) #[] #[]], born := 2 }, { key := .string ⟨#[120, 111, 114]⟩, val := .agg #[.int .i64 1, .func (.func 98) #[] #[]], born := 3 }, { key := .string ⟨#[102, 108, 101, 116, 99, 104, 101, 114]⟩, val := .agg #[.int .i64 2, .func (.func 99) #[] #[]], born := 4 }, { key := .string ⟨#[99, 114, 99, 56]⟩, val := .agg #[.int .i64 1, .func (.func 103) #[] #[.pointer (some ⟨b1, 0, none⟩)]], born := 5 }, { key := .string ⟨#[99, 114, 99, 49, 54]⟩, val := .agg #[.int .i64 2, .func (.func 103) #[] #[.pointer (some ⟨b2, 0, none⟩)]], born := 6 }, { key := .string ⟨#[99, 99, 105, 116, 116]⟩, val := .agg #[.int .i64 2, .func (.func 103) #[] #[.pointer (some ⟨b3, 0, none⟩)]], born := 7 }]) (es' := #[{ key := .string ⟨#[110, 111, 110, 101]⟩, val := .agg #[.int .i64 0, .func (.func 96) #[] #[]], born := 0 }, { key := .string ⟨#[115, 117, 109]⟩, val := .agg #[.int .i64 1, .func (.func 96) #[] #[]], born := 1 }, { key := .string ⟨#[108, 114, 99]⟩, val := .agg #[.int .i64 1, .func (.func 97) #[] #[]], born := 2 }, { key := .string ⟨#[120, 111, 114]⟩, val := .agg #[.int .i64 1, .func (.func 98) #[] #[]], born := 3 }, { key := .string ⟨#[102, 108, 101, 116, 99, 104, 101, 114]⟩, val := .agg #[.int .i64 2, .func (.func 99) #[] #[]], born := 4 }, { key := .string ⟨#[99, 114, 99, 56]⟩, val := .agg #[.int .i64 1, .func (.func 103) #[] #[.pointer (some ⟨b1, 0, none⟩)]], born := 5 }, { key := .string ⟨#[99, 114, 99, 49, 54]⟩, val := .agg #[.int .i64 2, .func (.func 103) #[] #[.pointer (some ⟨b2, 0, none⟩)]], born := 6 }, { key := .string ⟨#[99, 99, 105, 116, 116]⟩, val := .agg #[.int .i64 2, .func (.func 103) #[] #[.pointer (some ⟨b3, 0, none⟩)]], born := 7 }, { key := .string ⟨#[99, 114, 99, 51, 50]⟩, val := .agg #[.int .i64 4, .func (.func 103) #[] #[.pointer (some ⟨b4, 0, none⟩)]], born := 8 }]) (clock := 8) (val := .agg #[.int .i64 4, .func (.func 103) #[] #[.pointer (some ⟨b4, 0, none⟩)]]) Try.underlying151 Try.underlying9 ?hx ?hv m8 ?hf ?he ?_; (case hg => rfl); (case hd => rfl); (case hx => rfl); (case hv => rfl); (case hf => kernel_rfl); (case he => rfl); intro w9 hw9; have m9 := map_put (es' := #[{ key := .string ⟨#[110, 111, 110, 101]⟩, val := .agg #[.int .i64 0, .func (.func 96) #[] #[]], born := 0 }, { key := .string ⟨#[115, 117, 109]⟩, val := .agg #[.int .i64 1, .func (.func 96) #[] #[]], born := 1 }, { key := .string ⟨#[108, 114, 99]⟩, val := .agg #[.int .i64 1, .func (.func 97) #[] #[]], born := 2 }, { key := .string ⟨#[120, 111, 114]⟩, val := .agg #[.int .i64 1, .func (.func 98) #[] #[]], born := 3 }, { key := .string ⟨#[102, 108, 101, 116, 99, 104, 101, 114]⟩, val := .agg #[.int .i64 2, .func (.func 99) #[] #[]], born := 4 }, { key := .string ⟨#[99, 114, 99, 56]⟩, val := .agg #[.int .i64 1, .func (.func 103) #[] #[.pointer (some ⟨b1, 0, none⟩)]], born := 5 }, { key := .string ⟨#[99, 114, 99, 49, 54]⟩, val := .agg #[.int .i64 2, .func (.func 103) #[] #[.pointer (some ⟨b2, 0, none⟩)]], born := 6 }, { key := .string ⟨#[99, 99, 105, 116, 116]⟩, val := .agg #[.int .i64 2, .func (.func 103) #[] #[.pointer (some ⟨b3, 0, none⟩)]], born := 7 }, { key := .string ⟨#[99, 114, 99, 51, 50]⟩, val := .agg #[.int .i64 4, .func (.func 103) #[] #[.pointer (some ⟨b4, 0, none⟩)]], born := 8 }]) (c' := 9) m8; have hB9 := below_put (es' := #[{ key := .string ⟨#[110, 111, 110, 101]⟩, val := .agg #[.int .i64 0, .func (.func 96) #[] #[]], born := 0 }, { key := .string ⟨#[115, 117, 109]⟩, val := .agg #[.int .i64 1, .func (.func 96) #[] #[]], born := 1 }, { key := .string ⟨#[108, 114, 99]⟩, val := .agg #[.int .i64 1, .func (.func 97) #[] #[]], born := 2 }, { key := .string ⟨#[120, 111, 114]⟩, val := .agg #[.int .i64 1, .func (.func 98) #[] #[]], born := 3 }, { key := .string ⟨#[102, 108, 101, 116, 99, 104, 101, 114]⟩, val := .agg #[.int .i64 2, .func (.func 99) #[] #[]], born := 4 }, { key := .string ⟨#[99, 114, 99, 56]⟩, val := .agg #[.int .i64 1, .func (.func 103) #[] #[.pointer (some ⟨b1, 0, none⟩)]], born := 5 }, { key := .string ⟨#[99, 114, 99, 49, 54]⟩, val := .agg #[.int .i64 2, .func (.func 103) #[] #[.pointer (some ⟨b2, 0, none⟩)]], born := 6 }, { key := .string ⟨#[99, 99, 105, 116, 116]⟩, val := .agg #[.int .i64 2, .func (.func 103) #[] #[.pointer (some ⟨b3, 0, none⟩)]], born := 7 }, { key := .string ⟨#[99, 114, 99, 51, 50]⟩, val := .agg #[.int .i64 4, .func (.func 103) #[] #[.pointer (some ⟨b4, 0, none⟩)]], born := 8 }]) (c' := 9) hB8 (Nat.le_refl _) m8 (Nat.le_refl _); rw [← hw9] at m9 hB9; replace k1 := cells_put (es' := #[{ key := .string ⟨#[110, 111, 110, 101]⟩, val := .agg #[.int .i64 0, .func (.func 96) #[] #[]], born := 0 }, { key := .string ⟨#[115, 117, 109]⟩, val := .agg #[.int .i64 1, .func (.func 96) #[] #[]], born := 1 }, { key := .string ⟨#[108, 114, 99]⟩, val := .agg #[.int .i64 1, .func (.func 97) #[] #[]], born := 2 }, { key := .string ⟨#[120, 111, 114]⟩, val := .agg #[.int .i64 1, .func (.func 98) #[] #[]], born := 3 }, { key := .string ⟨#[102, 108, 101, 116, 99, 104, 101, 114]⟩, val := .agg #[.int .i64 2, .func (.func 99) #[] #[]], born := 4 }, { key := .string ⟨#[99, 114, 99, 56]⟩, val := .agg #[.int .i64 1, .func (.func 103) #[] #[.pointer (some ⟨b1, 0, none⟩)]], born := 5 }, { key := .string ⟨#[99, 114, 99, 49, 54]⟩, val := .agg #[.int .i64 2, .func (.func 103) #[] #[.pointer (some ⟨b2, 0, none⟩)]], born := 6 }, { key := .string ⟨#[99, 99, 105, 116, 116]⟩, val := .agg #[.int .i64 2, .func (.func 103) #[] #[.pointer (some ⟨b3, 0, none⟩)]], born := 7 }, { key := .string ⟨#[99, 114, 99, 51, 50]⟩, val := .agg #[.int .i64 4, .func (.func 103) #[] #[.pointer (some ⟨b4, 0, none⟩)]], born := 8 }]) (c' := 9) k1 m8; rw [← hw9] at k1; replace k2 := cells_put (es' := #[{ key := .string ⟨#[110, 111, 110, 101]⟩, val := .agg #[.int .i64 0, .func (.func 96) #[] #[]], born := 0 }, { key := .string ⟨#[115, 117, 109]⟩, val := .agg #[.int .i64 1, .func (.func 96) #[] #[]], born := 1 }, { key := .string ⟨#[108, 114, 99]⟩, val := .agg #[.int .i64 1, .func (.func 97) #[] #[]], born := 2 }, { key := .string ⟨#[120, 111, 114]⟩, val := .agg #[.int .i64 1, .func (.func 98) #[] #[]], born := 3 }, { key := .string ⟨#[102, 108, 101, 116, 99, 104, 101, 114]⟩, val := .agg #[.int .i64 2, .func (.func 99) #[] #[]], born := 4 }, { key := .string ⟨#[99, 114, 99, 56]⟩, val := .agg #[.int .i64 1, .func (.func 103) #[] #[.pointer (some ⟨b1, 0, none⟩)]], born := 5 }, { key := .string ⟨#[99, 114, 99, 49, 54]⟩, val := .agg #[.int .i64 2, .func (.func 103) #[] #[.pointer (some ⟨b2, 0, none⟩)]], born := 6 }, { key := .string ⟨#[99, 99, 105, 116, 116]⟩, val := .agg #[.int .i64 2, .func (.func 103) #[] #[.pointer (some ⟨b3, 0, none⟩)]], born := 7 }, { key := .string ⟨#[99, 114, 99, 51, 50]⟩, val := .agg #[.int .i64 4, .func (.func 103) #[] #[.pointer (some ⟨b4, 0, none⟩)]], born := 8 }]) (c' := 9) k2 m8; rw [← hw9] at k2; replace k3 := cells_put (es' := #[{ key := .string ⟨#[110, 111, 110, 101]⟩, val := .agg #[.int .i64 0, .func (.func 96) #[] #[]], born := 0 }, { key := .string ⟨#[115, 117, 109]⟩, val := .agg #[.int .i64 1, .func (.func 96) #[] #[]], born := 1 }, { key := .string ⟨#[108, 114, 99]⟩, val := .agg #[.int .i64 1, .func (.func 97) #[] #[]], born := 2 }, { key := .string ⟨#[120, 111, 114]⟩, val := .agg #[.int .i64 1, .func (.func 98) #[] #[]], born := 3 }, { key := .string ⟨#[102, 108, 101, 116, 99, 104, 101, 114]⟩, val := .agg #[.int .i64 2, .func (.func 99) #[] #[]], born := 4 }, { key := .string ⟨#[99, 114, 99, 56]⟩, val := .agg #[.int .i64 1, .func (.func 103) #[] #[.pointer (some ⟨b1, 0, none⟩)]], born := 5 }, { key := .string ⟨#[99, 114, 99, 49, 54]⟩, val := .agg #[.int .i64 2, .func (.func 103) #[] #[.pointer (some ⟨b2, 0, none⟩)]], born := 6 }, { key := .string ⟨#[99, 99, 105, 116, 116]⟩, val := .agg #[.int .i64 2, .func (.func 103) #[] #[.pointer (some ⟨b3, 0, none⟩)]], born := 7 }, { key := .string ⟨#[99, 114, 99, 51, 50]⟩, val := .agg #[.int .i64 4, .func (.func 103) #[] #[.pointer (some ⟨b4, 0, none⟩)]], born := 8 }]) (c' := 9) k3 m8; rw [← hw9] at k3; replace k4 := cells_put (es' := #[{ key := .string ⟨#[110, 111, 110, 101]⟩, val := .agg #[.int .i64 0, .func (.func 96) #[] #[]], born := 0 }, { key := .string ⟨#[115, 117, 109]⟩, val := .agg #[.int .i64 1, .func (.func 96) #[] #[]], born := 1 }, { key := .string ⟨#[108, 114, 99]⟩, val := .agg #[.int .i64 1, .func (.func 97) #[] #[]], born := 2 }, { key := .string ⟨#[120, 111, 114]⟩, val := .agg #[.int .i64 1, .func (.func 98) #[] #[]], born := 3 }, { key := .string ⟨#[102, 108, 101, 116, 99, 104, 101, 114]⟩, val := .agg #[.int .i64 2, .func (.func 99) #[] #[]], born := 4 }, { key := .string ⟨#[99, 114, 99, 56]⟩, val := .agg #[.int .i64 1, .func (.func 103) #[] #[.pointer (some ⟨b1, 0, none⟩)]], born := 5 }, { key := .string ⟨#[99, 114, 99, 49, 54]⟩, val := .agg #[.int .i64 2, .func (.func 103) #[] #[.pointer (some ⟨b2, 0, none⟩)]], born := 6 }, { key := .string ⟨#[99, 99, 105, 116, 116]⟩, val := .agg #[.int .i64 2, .func (.func 103) #[] #[.pointer (some ⟨b3, 0, none⟩)]], born := 7 }, { key := .string ⟨#[99, 114, 99, 51, 50]⟩, val := .agg #[.int .i64 4, .func (.func 103) #[] #[.pointer (some ⟨b4, 0, none⟩)]], born := 8 }]) (c' := 9) k4 m8; rw [← hw9] at k4; clear hw9)
  go_ret
  exact ⟨w.heap.size, b1, b2, b3, b4, rfl, Nat.le_refl _, ⟨m9, k1, k2, k3, k4⟩, hB9⟩
end Go.Proofs.Ytcldlfhnmkogeaa.Sums

/- What bytes end with (sums.Of, Size), walked. -/
set_option linter.unusedVariables false
set_option linter.unusedSimpArgs false
namespace Go.Proofs.Ytcldlfhnmkogeaa.Sums
open Go.RowKit Go.Proofs.YtcldlfhnmkogeaaW.PrintWords Go.Proofs.YtcldlfhnmkogeaaW.PrintLast Go.Proofs.Ytcldlfhnmkogeaa.Nats Go.Proofs.Ytcldlfhnmkogeaa.HeapKit Go.Proofs.Ytcldlfhnmkogeaa.CrcCalls

/-- A number's bytes, the highest first. -/
def endB (n v : Nat) : List Nat := (List.range n).map fun i => v / 256 ^ (n - 1 - i) % 256
theorem endB_length (n v : Nat) : (endB n v).length = n := by simp [endB]
theorem endB_take {n v k i : Nat} (h : i + 1 + k = n) : (endB n v).take (k + 1) = (endB n v).take k ++ [v / 256 ^ i % 256] := by
  rw [List.take_add_one]
  congr 1
  unfold endB
  rw [List.getElem?_map, List.getElem?_range (by omega)]
  simp only [Option.map_some, Option.toList_some]
  congr 4
  omega
theorem run_store_func {P : Program} {w : World} {a : Addr} {m : Mode} (f : Fn) (first cap : Array Value) : (store a (.func f first cap) m).run P w = stored P w a (.func f first cap) m := run_store P w a _ m rfl
theorem run_store_nilFunc {P : Program} {w : World} {a : Addr} {m : Mode} : (store a .nilFunc m).run P w = stored P w a .nilFunc m := run_store P w a _ m rfl
attribute [local go_sem] run_store_func run_store_nilFunc
theorem info_u8 : (Try.prog.info? 5).map (fun i => (i.zero, i.size, i.bytes)) = some (some (.int .u8 0), 1, 1) := by kernel_rfl

set_option maxRecDepth 100000 in
set_option maxHeartbeats 1000000 in
theorem dsum0 {l : List Nat} (hl : ∀ x ∈ l, x < 256) {A : Option Addr} {n c : Nat} (hn : l.length = n) (hm : n < 9223372036854775807) (hc : n ≤ c) (b : Nat) (W : World) (hk : W.heap[b]? = some (.cells (kcells 8 7 0 false 0) 158 (0, 0))) (hC : Kd.C (Kd.int .u8) W A n (ints l)) :
    Calls Try.prog 103 #[.slice A n c, .pointer (some ⟨b, 0, none⟩)] W fun e w' => e = .returned (.int .u32 ((CrcPlain.sum 8 7 0 false 0 l : Nat) : Int)) ∧ Below W.heap.size W w' := by
  have hs := sum8 7 0 0 false l (by decide) (by decide) (by decide) hl (by omega) A n c W hn hc hC
  have HS := Lib.hid hs
  clear hs
  have k0 : W.cell? ⟨b, 0, none⟩ = some (.int .i64 8) := blk_cell hk 0
  have k1 : W.cell? ⟨b, 1, none⟩ = some (.int .u32 7) := blk_cell hk 1
  have k2 : W.cell? ⟨b, 2, none⟩ = some (.int .u32 0) := blk_cell hk 2
  have k3 : W.cell? ⟨b, 3, none⟩ = some (.bool false) := blk_cell hk 3
  have k4 : W.cell? ⟨b, 4, none⟩ = some (.int .u32 0) := blk_cell hk 4
  go_enter Try.func103, Try.ntmps103
  go_wp2_with fail
  refine HS.out.mono ?_
  rintro e w1 ⟨rfl, hb⟩
  go_wp2_with fail
  go_ret
  exact ⟨rfl, hb⟩

set_option maxRecDepth 100000 in
set_option maxHeartbeats 1000000 in
theorem dsum1 {l : List Nat} (hl : ∀ x ∈ l, x < 256) {A : Option Addr} {n c : Nat} (hn : l.length = n) (hm : n < 9223372036854775807) (hc : n ≤ c) (b : Nat) (W : World) (hk : W.heap[b]? = some (.cells (kcells 16 32773 0 true 0) 158 (0, 0))) (hC : Kd.C (Kd.int .u8) W A n (ints l)) :
    Calls Try.prog 103 #[.slice A n c, .pointer (some ⟨b, 0, none⟩)] W fun e w' => e = .returned (.int .u32 ((CrcPlain.sum 16 32773 0 true 0 l : Nat) : Int)) ∧ Below W.heap.size W w' := by
  have hs := sum16 32773 0 0 true l (by decide) (by decide) (by decide) hl (by omega) A n c W hn hc hC
  have HS := Lib.hid hs
  clear hs
  have k0 : W.cell? ⟨b, 0, none⟩ = some (.int .i64 16) := blk_cell hk 0
  have k1 : W.cell? ⟨b, 1, none⟩ = some (.int .u32 32773) := blk_cell hk 1
  have k2 : W.cell? ⟨b, 2, none⟩ = some (.int .u32 0) := blk_cell hk 2
  have k3 : W.cell? ⟨b, 3, none⟩ = some (.bool true) := blk_cell hk 3
  have k4 : W.cell? ⟨b, 4, none⟩ = some (.int .u32 0) := blk_cell hk 4
  go_enter Try.func103, Try.ntmps103
  go_wp2_with fail
  refine HS.out.mono ?_
  rintro e w1 ⟨rfl, hb⟩
  go_wp2_with fail
  go_ret
  exact ⟨rfl, hb⟩

set_option maxRecDepth 100000 in
set_option maxHeartbeats 1000000 in
theorem dsum2 {l : List Nat} (hl : ∀ x ∈ l, x < 256) {A : Option Addr} {n c : Nat} (hn : l.length = n) (hm : n < 9223372036854775807) (hc : n ≤ c) (b : Nat) (W : World) (hk : W.heap[b]? = some (.cells (kcells 16 4129 65535 false 0) 158 (0, 0))) (hC : Kd.C (Kd.int .u8) W A n (ints l)) :
    Calls Try.prog 103 #[.slice A n c, .pointer (some ⟨b, 0, none⟩)] W fun e w' => e = .returned (.int .u32 ((CrcPlain.sum 16 4129 65535 false 0 l : Nat) : Int)) ∧ Below W.heap.size W w' := by
  have hs := sum16 4129 65535 0 false l (by decide) (by decide) (by decide) hl (by omega) A n c W hn hc hC
  have HS := Lib.hid hs
  clear hs
  have k0 : W.cell? ⟨b, 0, none⟩ = some (.int .i64 16) := blk_cell hk 0
  have k1 : W.cell? ⟨b, 1, none⟩ = some (.int .u32 4129) := blk_cell hk 1
  have k2 : W.cell? ⟨b, 2, none⟩ = some (.int .u32 65535) := blk_cell hk 2
  have k3 : W.cell? ⟨b, 3, none⟩ = some (.bool false) := blk_cell hk 3
  have k4 : W.cell? ⟨b, 4, none⟩ = some (.int .u32 0) := blk_cell hk 4
  go_enter Try.func103, Try.ntmps103
  go_wp2_with fail
  refine HS.out.mono ?_
  rintro e w1 ⟨rfl, hb⟩
  go_wp2_with fail
  go_ret
  exact ⟨rfl, hb⟩

set_option maxRecDepth 100000 in
set_option maxHeartbeats 1000000 in
theorem dsum3 {l : List Nat} (hl : ∀ x ∈ l, x < 256) {A : Option Addr} {n c : Nat} (hn : l.length = n) (hm : n < 9223372036854775807) (hc : n ≤ c) (b : Nat) (W : World) (hk : W.heap[b]? = some (.cells (kcells 32 79764919 4294967295 true 4294967295) 158 (0, 0))) (hC : Kd.C (Kd.int .u8) W A n (ints l)) :
    Calls Try.prog 103 #[.slice A n c, .pointer (some ⟨b, 0, none⟩)] W fun e w' => e = .returned (.int .u32 ((CrcPlain.sum 32 79764919 4294967295 true 4294967295 l : Nat) : Int)) ∧ Below W.heap.size W w' := by
  have hs := sum32 79764919 4294967295 4294967295 true l (by decide) (by decide) (by decide) hl (by omega) A n c W hn hc hC
  have HS := Lib.hid hs
  clear hs
  have k0 : W.cell? ⟨b, 0, none⟩ = some (.int .i64 32) := blk_cell hk 0
  have k1 : W.cell? ⟨b, 1, none⟩ = some (.int .u32 79764919) := blk_cell hk 1
  have k2 : W.cell? ⟨b, 2, none⟩ = some (.int .u32 4294967295) := blk_cell hk 2
  have k3 : W.cell? ⟨b, 3, none⟩ = some (.bool true) := blk_cell hk 3
  have k4 : W.cell? ⟨b, 4, none⟩ = some (.int .u32 4294967295) := blk_cell hk 4
  go_enter Try.func103, Try.ntmps103
  go_wp2_with fail
  refine HS.out.mono ?_
  rintro e w1 ⟨rfl, hb⟩
  go_wp2_with fail
  go_ret
  exact ⟨rfl, hb⟩

/-- The loop that lays the bytes. -/
def RelO (w : World) (N v : Nat) (s9 s10 : Value) (wr : World) : Prop := ∃ j k : Nat, j + k = N ∧ s10 = .int .i64 ((j : Int) - 1) ∧ Kd.R (Kd.int .u8) 5 wr w.heap.size (fun _ => True) s9 (ints ((endB N v).take k)) ∧ Below w.heap.size w wr
theorem shr_at (v i : Nat) (hi : i ≤ 4) : shr .u32 (v : Int) ((8 * i : Nat) : Int) = ((v / 256 ^ i : Nat) : Int) := by
  rw [RunPSum.shr_u32 v (8 * i) (by omega), show (2 : Nat) ^ (8 * i) = 256 ^ i from by rw [Nat.pow_mul]]
theorem byte_pow (v i : Nat) : ((v : Nat) : Int) / 2 ^ (8 * i) % 256 = ((v / 256 ^ i % 256 : Nat) : Int) := by
  rw [show ((256 : Nat) ^ i) = 2 ^ (8 * i) from by rw [show (256 : Nat) = 2 ^ 8 from rfl, ← Nat.pow_mul]]
  simp
theorem byte_at (x : Nat) : ((x : Nat) : Int) % 256 = ((x % 256 : Nat) : Int) := by omega

set_option maxRecDepth 100000 in
set_option maxHeartbeats 2000000 in
theorem of0 {l : List Nat} (hl : ∀ x ∈ l, x < 256) {A : Option Addr} {n c : Nat} (hn : l.length = n) (hm : n < 9223372036854775807) (hc : n ≤ c) (w : World) (hC : Kd.C (Kd.int .u8) w A n (ints l)) :
    Calls Try.prog 71 #[.string ⟨#[110, 111, 110, 101]⟩, .slice A n c] w fun e w' => ∃ v, e = .returned (.tuple #[v, .int .i64 0]) ∧ Kd.R (Kd.int .u8) 5 w' w.heap.size (fun _ => True) v (ints (endB 0 (sumS l))) ∧ Below w.heap.size w w' := by
  have hinfo := info_u8
  go_enter Try.func71, Try.ntmps71
  go_wp2_with fail
  refine (kinds_calls _).mono ?_
  rintro e w1 ⟨m, b1, b2, b3, b4, rfl, hm1, hT, hB⟩
  have hlk := (run_look (P := Try.prog) (t := 151) (s := ⟨#[110, 111, 110, 101]⟩) Try.underlying151 Try.underlying9 hT.m).1 0 (.agg #[.int .i64 0, .func (.func 96) #[] #[]]) (by kernel_rfl)
  have kx := blk_new w1 (.cells #[.int .i64 0, .func (.func 96) #[] #[]] 149)
  have hb1 := below_alloc (Below.refl w1.heap.size w1) (.cells #[.int .i64 0, .func (.func 96) #[] #[]] 149)
  have hT2 := hT.step hb1
  have hC2 := Kd.C_below (Kd.C_below hC hB) hb1
  replace hB := bthen hB hb1
  have x0 : (w1.alloc (.cells #[.int .i64 0, .func (.func 96) #[] #[]] 149)).cell? ⟨w1.heap.size, 0, none⟩ = some (.int .i64 0) := blk_cell kx 0
  have x1 : (w1.alloc (.cells #[.int .i64 0, .func (.func 96) #[] #[]] 149)).cell? ⟨w1.heap.size, 1, none⟩ = some (.func (.func 96) #[] #[]) := blk_cell kx 1
  have hcall := summed_calls hl hn hm hc _ hC2
  have HCALL := Lib.hid hcall
  clear hcall
  go_wp2_with fail
  refine HCALL.out.mono ?_
  rintro e w2 ⟨rfl, hb2⟩
  obtain ⟨v, hv⟩ : ∃ v, sumS l = v := ⟨_, rfl⟩
  rw [hv]
  have HV := Lib.hid hv
  have y0 : w2.cell? ⟨w1.heap.size, 0, none⟩ = some (.int .i64 0) := blk_cell (blk_below kx hb2) 0
  replace hB := bthen hB hb2
  clear hb2 x0 x1 kx hT hT2 hC2 hb1 hlk HCALL hv
  go_wp2_with fail
  clear y0
  go_loopw [9, 10] (RelO w 0 v) (fun _ i _ => (intOf i + 1).toNat)
  case atStart => exact ⟨0, 0, rfl, rfl, Kd.R_nil _ _ _ _ _, hB⟩
  case round =>
    obtain ⟨j, k, hjk, rfl, hR, hBr⟩ := hrel
    rename_i s9 _
    have HJ := Lib.hid hjk
    clear hjk
    cases j with
    | zero =>
      have hk : k = 0 := by have := HJ.out; omega
      subst hk
      rw [List.take_of_length_le (by rw [endB_length]; exact Nat.le_refl _)] at hR
      go_wp2_with fail
      go_ret2
      rw [HV.out]
      exact ⟨_, rfl, hR, hBr⟩
    | succ i =>
      have hi : i ≤ 3 := by have := HJ.out; omega
      rw [show ((i + 1 : Nat) : Int) - 1 = (i : Int) from by omega]
      have e8 : wrap64 (8 * (i : Int)) = ((8 * i : Nat) : Int) := by unfold wrap64; omega
      have eb := byte_pow v i
      have EB := Lib.hid eb
      clear eb
      have et := endB_take (v := v) (n := 0) (k := k) (i := i) (by have := HJ.out; omega)
      have ET := Lib.hid et
      clear et
      have g0 : decide ((i : Int) ≥ 0) = true := by simp
      have g1 : decide (((8 * i : Nat) : Int) < 0) = false := by simp; omega
      have em : IntKind.i64.wrap ((i : Int) - 1) = (i : Int) - 1 := by rw [i64_w]; unfold wrap64; omega
      go_wp2_with (first | ((with_reducible refine gate_dst (N := 37) rfl ?_); refine Kd.R_append (Kd.int .u8) _ rfl (.tmp 30) (.tmp 36) 122 5 (.int .u8 0) 1 rfl Try.underlying122 hinfo rfl (by decide) (by decide) _ _ ((v : Int) / 2 ^ (8 * i) % 256) [.int .u8 ((v : Int) / 2 ^ (8 * i) % 256)] (fun _ => True) (fun _ => False) rfl rfl ?aM (fun _ h => h.elim) (fun _ _ => trivial) hR hBr hBr.size ?aZ ?_; (case aM => exact rfl); (case aZ => rw [ints_length, List.length_take, endB_length]; have := HJ.out; omega); intro v6 w6 hR6 hb6 hg6 hn6) | fail)
      refine ⟨⟨i, k + 1, by have := HJ.out; omega, rfl, ?_, hb6⟩, ?_⟩
      · rw [ET.out]
        rw [EB.out] at hR6
        simpa [ints] using hR6
      · simp [intOf] <;> omega

set_option maxRecDepth 100000 in
set_option maxHeartbeats 2000000 in
theorem of1 {l : List Nat} (hl : ∀ x ∈ l, x < 256) {A : Option Addr} {n c : Nat} (hn : l.length = n) (hm : n < 9223372036854775807) (hc : n ≤ c) (w : World) (hC : Kd.C (Kd.int .u8) w A n (ints l)) :
    Calls Try.prog 71 #[.string ⟨#[115, 117, 109]⟩, .slice A n c] w fun e w' => ∃ v, e = .returned (.tuple #[v, .int .i64 0]) ∧ Kd.R (Kd.int .u8) 5 w' w.heap.size (fun _ => True) v (ints (endB 1 (sumS l))) ∧ Below w.heap.size w w' := by
  have hinfo := info_u8
  go_enter Try.func71, Try.ntmps71
  go_wp2_with fail
  refine (kinds_calls _).mono ?_
  rintro e w1 ⟨m, b1, b2, b3, b4, rfl, hm1, hT, hB⟩
  have hlk := (run_look (P := Try.prog) (t := 151) (s := ⟨#[115, 117, 109]⟩) Try.underlying151 Try.underlying9 hT.m).1 1 (.agg #[.int .i64 1, .func (.func 96) #[] #[]]) (by kernel_rfl)
  have kx := blk_new w1 (.cells #[.int .i64 1, .func (.func 96) #[] #[]] 149)
  have hb1 := below_alloc (Below.refl w1.heap.size w1) (.cells #[.int .i64 1, .func (.func 96) #[] #[]] 149)
  have hT2 := hT.step hb1
  have hC2 := Kd.C_below (Kd.C_below hC hB) hb1
  replace hB := bthen hB hb1
  have x0 : (w1.alloc (.cells #[.int .i64 1, .func (.func 96) #[] #[]] 149)).cell? ⟨w1.heap.size, 0, none⟩ = some (.int .i64 1) := blk_cell kx 0
  have x1 : (w1.alloc (.cells #[.int .i64 1, .func (.func 96) #[] #[]] 149)).cell? ⟨w1.heap.size, 1, none⟩ = some (.func (.func 96) #[] #[]) := blk_cell kx 1
  have hcall := summed_calls hl hn hm hc _ hC2
  have HCALL := Lib.hid hcall
  clear hcall
  go_wp2_with fail
  refine HCALL.out.mono ?_
  rintro e w2 ⟨rfl, hb2⟩
  obtain ⟨v, hv⟩ : ∃ v, sumS l = v := ⟨_, rfl⟩
  rw [hv]
  have HV := Lib.hid hv
  have y0 : w2.cell? ⟨w1.heap.size, 0, none⟩ = some (.int .i64 1) := blk_cell (blk_below kx hb2) 0
  replace hB := bthen hB hb2
  clear hb2 x0 x1 kx hT hT2 hC2 hb1 hlk HCALL hv
  go_wp2_with fail
  clear y0
  go_loopw [9, 10] (RelO w 1 v) (fun _ i _ => (intOf i + 1).toNat)
  case atStart => exact ⟨1, 0, rfl, rfl, Kd.R_nil _ _ _ _ _, hB⟩
  case round =>
    obtain ⟨j, k, hjk, rfl, hR, hBr⟩ := hrel
    rename_i s9 _
    have HJ := Lib.hid hjk
    clear hjk
    cases j with
    | zero =>
      have hk : k = 1 := by have := HJ.out; omega
      subst hk
      rw [List.take_of_length_le (by rw [endB_length]; exact Nat.le_refl _)] at hR
      go_wp2_with fail
      go_ret2
      rw [HV.out]
      exact ⟨_, rfl, hR, hBr⟩
    | succ i =>
      have hi : i ≤ 3 := by have := HJ.out; omega
      rw [show ((i + 1 : Nat) : Int) - 1 = (i : Int) from by omega]
      have e8 : wrap64 (8 * (i : Int)) = ((8 * i : Nat) : Int) := by unfold wrap64; omega
      have eb := byte_pow v i
      have EB := Lib.hid eb
      clear eb
      have et := endB_take (v := v) (n := 1) (k := k) (i := i) (by have := HJ.out; omega)
      have ET := Lib.hid et
      clear et
      have g0 : decide ((i : Int) ≥ 0) = true := by simp
      have g1 : decide (((8 * i : Nat) : Int) < 0) = false := by simp; omega
      have em : IntKind.i64.wrap ((i : Int) - 1) = (i : Int) - 1 := by rw [i64_w]; unfold wrap64; omega
      go_wp2_with (first | ((with_reducible refine gate_dst (N := 37) rfl ?_); refine Kd.R_append (Kd.int .u8) _ rfl (.tmp 30) (.tmp 36) 122 5 (.int .u8 0) 1 rfl Try.underlying122 hinfo rfl (by decide) (by decide) _ _ ((v : Int) / 2 ^ (8 * i) % 256) [.int .u8 ((v : Int) / 2 ^ (8 * i) % 256)] (fun _ => True) (fun _ => False) rfl rfl ?aM (fun _ h => h.elim) (fun _ _ => trivial) hR hBr hBr.size ?aZ ?_; (case aM => exact rfl); (case aZ => rw [ints_length, List.length_take, endB_length]; have := HJ.out; omega); intro v6 w6 hR6 hb6 hg6 hn6) | fail)
      refine ⟨⟨i, k + 1, by have := HJ.out; omega, rfl, ?_, hb6⟩, ?_⟩
      · rw [ET.out]
        rw [EB.out] at hR6
        simpa [ints] using hR6
      · simp [intOf] <;> omega

set_option maxRecDepth 100000 in
set_option maxHeartbeats 2000000 in
theorem of2 {l : List Nat} (hl : ∀ x ∈ l, x < 256) {A : Option Addr} {n c : Nat} (hn : l.length = n) (hm : n < 9223372036854775807) (hc : n ≤ c) (w : World) (hC : Kd.C (Kd.int .u8) w A n (ints l)) :
    Calls Try.prog 71 #[.string ⟨#[108, 114, 99]⟩, .slice A n c] w fun e w' => ∃ v, e = .returned (.tuple #[v, .int .i64 0]) ∧ Kd.R (Kd.int .u8) 5 w' w.heap.size (fun _ => True) v (ints (endB 1 (negS l))) ∧ Below w.heap.size w w' := by
  have hinfo := info_u8
  go_enter Try.func71, Try.ntmps71
  go_wp2_with fail
  refine (kinds_calls _).mono ?_
  rintro e w1 ⟨m, b1, b2, b3, b4, rfl, hm1, hT, hB⟩
  have hlk := (run_look (P := Try.prog) (t := 151) (s := ⟨#[108, 114, 99]⟩) Try.underlying151 Try.underlying9 hT.m).1 2 (.agg #[.int .i64 1, .func (.func 97) #[] #[]]) (by kernel_rfl)
  have kx := blk_new w1 (.cells #[.int .i64 1, .func (.func 97) #[] #[]] 149)
  have hb1 := below_alloc (Below.refl w1.heap.size w1) (.cells #[.int .i64 1, .func (.func 97) #[] #[]] 149)
  have hT2 := hT.step hb1
  have hC2 := Kd.C_below (Kd.C_below hC hB) hb1
  replace hB := bthen hB hb1
  have x0 : (w1.alloc (.cells #[.int .i64 1, .func (.func 97) #[] #[]] 149)).cell? ⟨w1.heap.size, 0, none⟩ = some (.int .i64 1) := blk_cell kx 0
  have x1 : (w1.alloc (.cells #[.int .i64 1, .func (.func 97) #[] #[]] 149)).cell? ⟨w1.heap.size, 1, none⟩ = some (.func (.func 97) #[] #[]) := blk_cell kx 1
  have hcall := negative_calls hl hn hm hc _ hC2
  have HCALL := Lib.hid hcall
  clear hcall
  go_wp2_with fail
  refine HCALL.out.mono ?_
  rintro e w2 ⟨rfl, hb2⟩
  obtain ⟨v, hv⟩ : ∃ v, negS l = v := ⟨_, rfl⟩
  rw [hv]
  have HV := Lib.hid hv
  have y0 : w2.cell? ⟨w1.heap.size, 0, none⟩ = some (.int .i64 1) := blk_cell (blk_below kx hb2) 0
  replace hB := bthen hB hb2
  clear hb2 x0 x1 kx hT hT2 hC2 hb1 hlk HCALL hv
  go_wp2_with fail
  clear y0
  go_loopw [9, 10] (RelO w 1 v) (fun _ i _ => (intOf i + 1).toNat)
  case atStart => exact ⟨1, 0, rfl, rfl, Kd.R_nil _ _ _ _ _, hB⟩
  case round =>
    obtain ⟨j, k, hjk, rfl, hR, hBr⟩ := hrel
    rename_i s9 _
    have HJ := Lib.hid hjk
    clear hjk
    cases j with
    | zero =>
      have hk : k = 1 := by have := HJ.out; omega
      subst hk
      rw [List.take_of_length_le (by rw [endB_length]; exact Nat.le_refl _)] at hR
      go_wp2_with fail
      go_ret2
      rw [HV.out]
      exact ⟨_, rfl, hR, hBr⟩
    | succ i =>
      have hi : i ≤ 3 := by have := HJ.out; omega
      rw [show ((i + 1 : Nat) : Int) - 1 = (i : Int) from by omega]
      have e8 : wrap64 (8 * (i : Int)) = ((8 * i : Nat) : Int) := by unfold wrap64; omega
      have eb := byte_pow v i
      have EB := Lib.hid eb
      clear eb
      have et := endB_take (v := v) (n := 1) (k := k) (i := i) (by have := HJ.out; omega)
      have ET := Lib.hid et
      clear et
      have g0 : decide ((i : Int) ≥ 0) = true := by simp
      have g1 : decide (((8 * i : Nat) : Int) < 0) = false := by simp; omega
      have em : IntKind.i64.wrap ((i : Int) - 1) = (i : Int) - 1 := by rw [i64_w]; unfold wrap64; omega
      go_wp2_with (first | ((with_reducible refine gate_dst (N := 37) rfl ?_); refine Kd.R_append (Kd.int .u8) _ rfl (.tmp 30) (.tmp 36) 122 5 (.int .u8 0) 1 rfl Try.underlying122 hinfo rfl (by decide) (by decide) _ _ ((v : Int) / 2 ^ (8 * i) % 256) [.int .u8 ((v : Int) / 2 ^ (8 * i) % 256)] (fun _ => True) (fun _ => False) rfl rfl ?aM (fun _ h => h.elim) (fun _ _ => trivial) hR hBr hBr.size ?aZ ?_; (case aM => exact rfl); (case aZ => rw [ints_length, List.length_take, endB_length]; have := HJ.out; omega); intro v6 w6 hR6 hb6 hg6 hn6) | fail)
      refine ⟨⟨i, k + 1, by have := HJ.out; omega, rfl, ?_, hb6⟩, ?_⟩
      · rw [ET.out]
        rw [EB.out] at hR6
        simpa [ints] using hR6
      · simp [intOf] <;> omega

set_option maxRecDepth 100000 in
set_option maxHeartbeats 2000000 in
theorem of3 {l : List Nat} (hl : ∀ x ∈ l, x < 256) {A : Option Addr} {n c : Nat} (hn : l.length = n) (hm : n < 9223372036854775807) (hc : n ≤ c) (w : World) (hC : Kd.C (Kd.int .u8) w A n (ints l)) :
    Calls Try.prog 71 #[.string ⟨#[120, 111, 114]⟩, .slice A n c] w fun e w' => ∃ v, e = .returned (.tuple #[v, .int .i64 0]) ∧ Kd.R (Kd.int .u8) 5 w' w.heap.size (fun _ => True) v (ints (endB 1 (mixS l))) ∧ Below w.heap.size w w' := by
  have hinfo := info_u8
  go_enter Try.func71, Try.ntmps71
  go_wp2_with fail
  refine (kinds_calls _).mono ?_
  rintro e w1 ⟨m, b1, b2, b3, b4, rfl, hm1, hT, hB⟩
  have hlk := (run_look (P := Try.prog) (t := 151) (s := ⟨#[120, 111, 114]⟩) Try.underlying151 Try.underlying9 hT.m).1 3 (.agg #[.int .i64 1, .func (.func 98) #[] #[]]) (by kernel_rfl)
  have kx := blk_new w1 (.cells #[.int .i64 1, .func (.func 98) #[] #[]] 149)
  have hb1 := below_alloc (Below.refl w1.heap.size w1) (.cells #[.int .i64 1, .func (.func 98) #[] #[]] 149)
  have hT2 := hT.step hb1
  have hC2 := Kd.C_below (Kd.C_below hC hB) hb1
  replace hB := bthen hB hb1
  have x0 : (w1.alloc (.cells #[.int .i64 1, .func (.func 98) #[] #[]] 149)).cell? ⟨w1.heap.size, 0, none⟩ = some (.int .i64 1) := blk_cell kx 0
  have x1 : (w1.alloc (.cells #[.int .i64 1, .func (.func 98) #[] #[]] 149)).cell? ⟨w1.heap.size, 1, none⟩ = some (.func (.func 98) #[] #[]) := blk_cell kx 1
  have hcall := mixed_calls hl hn hm hc _ hC2
  have HCALL := Lib.hid hcall
  clear hcall
  go_wp2_with fail
  refine HCALL.out.mono ?_
  rintro e w2 ⟨rfl, hb2⟩
  obtain ⟨v, hv⟩ : ∃ v, mixS l = v := ⟨_, rfl⟩
  rw [hv]
  have HV := Lib.hid hv
  have y0 : w2.cell? ⟨w1.heap.size, 0, none⟩ = some (.int .i64 1) := blk_cell (blk_below kx hb2) 0
  replace hB := bthen hB hb2
  clear hb2 x0 x1 kx hT hT2 hC2 hb1 hlk HCALL hv
  go_wp2_with fail
  clear y0
  go_loopw [9, 10] (RelO w 1 v) (fun _ i _ => (intOf i + 1).toNat)
  case atStart => exact ⟨1, 0, rfl, rfl, Kd.R_nil _ _ _ _ _, hB⟩
  case round =>
    obtain ⟨j, k, hjk, rfl, hR, hBr⟩ := hrel
    rename_i s9 _
    have HJ := Lib.hid hjk
    clear hjk
    cases j with
    | zero =>
      have hk : k = 1 := by have := HJ.out; omega
      subst hk
      rw [List.take_of_length_le (by rw [endB_length]; exact Nat.le_refl _)] at hR
      go_wp2_with fail
      go_ret2
      rw [HV.out]
      exact ⟨_, rfl, hR, hBr⟩
    | succ i =>
      have hi : i ≤ 3 := by have := HJ.out; omega
      rw [show ((i + 1 : Nat) : Int) - 1 = (i : Int) from by omega]
      have e8 : wrap64 (8 * (i : Int)) = ((8 * i : Nat) : Int) := by unfold wrap64; omega
      have eb := byte_pow v i
      have EB := Lib.hid eb
      clear eb
      have et := endB_take (v := v) (n := 1) (k := k) (i := i) (by have := HJ.out; omega)
      have ET := Lib.hid et
      clear et
      have g0 : decide ((i : Int) ≥ 0) = true := by simp
      have g1 : decide (((8 * i : Nat) : Int) < 0) = false := by simp; omega
      have em : IntKind.i64.wrap ((i : Int) - 1) = (i : Int) - 1 := by rw [i64_w]; unfold wrap64; omega
      go_wp2_with (first | ((with_reducible refine gate_dst (N := 37) rfl ?_); refine Kd.R_append (Kd.int .u8) _ rfl (.tmp 30) (.tmp 36) 122 5 (.int .u8 0) 1 rfl Try.underlying122 hinfo rfl (by decide) (by decide) _ _ ((v : Int) / 2 ^ (8 * i) % 256) [.int .u8 ((v : Int) / 2 ^ (8 * i) % 256)] (fun _ => True) (fun _ => False) rfl rfl ?aM (fun _ h => h.elim) (fun _ _ => trivial) hR hBr hBr.size ?aZ ?_; (case aM => exact rfl); (case aZ => rw [ints_length, List.length_take, endB_length]; have := HJ.out; omega); intro v6 w6 hR6 hb6 hg6 hn6) | fail)
      refine ⟨⟨i, k + 1, by have := HJ.out; omega, rfl, ?_, hb6⟩, ?_⟩
      · rw [ET.out]
        rw [EB.out] at hR6
        simpa [ints] using hR6
      · simp [intOf] <;> omega

set_option maxRecDepth 100000 in
set_option maxHeartbeats 2000000 in
theorem of4 {l : List Nat} (hl : ∀ x ∈ l, x < 256) {A : Option Addr} {n c : Nat} (hn : l.length = n) (hm : n < 9223372036854775807) (hc : n ≤ c) (w : World) (hC : Kd.C (Kd.int .u8) w A n (ints l)) :
    Calls Try.prog 71 #[.string ⟨#[102, 108, 101, 116, 99, 104, 101, 114]⟩, .slice A n c] w fun e w' => ∃ v, e = .returned (.tuple #[v, .int .i64 0]) ∧ Kd.R (Kd.int .u8) 5 w' w.heap.size (fun _ => True) v (ints (endB 2 (flS l))) ∧ Below w.heap.size w w' := by
  have hinfo := info_u8
  go_enter Try.func71, Try.ntmps71
  go_wp2_with fail
  refine (kinds_calls _).mono ?_
  rintro e w1 ⟨m, b1, b2, b3, b4, rfl, hm1, hT, hB⟩
  have hlk := (run_look (P := Try.prog) (t := 151) (s := ⟨#[102, 108, 101, 116, 99, 104, 101, 114]⟩) Try.underlying151 Try.underlying9 hT.m).1 4 (.agg #[.int .i64 2, .func (.func 99) #[] #[]]) (by kernel_rfl)
  have kx := blk_new w1 (.cells #[.int .i64 2, .func (.func 99) #[] #[]] 149)
  have hb1 := below_alloc (Below.refl w1.heap.size w1) (.cells #[.int .i64 2, .func (.func 99) #[] #[]] 149)
  have hT2 := hT.step hb1
  have hC2 := Kd.C_below (Kd.C_below hC hB) hb1
  replace hB := bthen hB hb1
  have x0 : (w1.alloc (.cells #[.int .i64 2, .func (.func 99) #[] #[]] 149)).cell? ⟨w1.heap.size, 0, none⟩ = some (.int .i64 2) := blk_cell kx 0
  have x1 : (w1.alloc (.cells #[.int .i64 2, .func (.func 99) #[] #[]] 149)).cell? ⟨w1.heap.size, 1, none⟩ = some (.func (.func 99) #[] #[]) := blk_cell kx 1
  have hcall := fletcher_calls hl hn hm hc _ hC2
  have HCALL := Lib.hid hcall
  clear hcall
  go_wp2_with fail
  refine HCALL.out.mono ?_
  rintro e w2 ⟨rfl, hb2⟩
  obtain ⟨v, hv⟩ : ∃ v, flS l = v := ⟨_, rfl⟩
  rw [hv]
  have HV := Lib.hid hv
  have y0 : w2.cell? ⟨w1.heap.size, 0, none⟩ = some (.int .i64 2) := blk_cell (blk_below kx hb2) 0
  replace hB := bthen hB hb2
  clear hb2 x0 x1 kx hT hT2 hC2 hb1 hlk HCALL hv
  go_wp2_with fail
  clear y0
  go_loopw [9, 10] (RelO w 2 v) (fun _ i _ => (intOf i + 1).toNat)
  case atStart => exact ⟨2, 0, rfl, rfl, Kd.R_nil _ _ _ _ _, hB⟩
  case round =>
    obtain ⟨j, k, hjk, rfl, hR, hBr⟩ := hrel
    rename_i s9 _
    have HJ := Lib.hid hjk
    clear hjk
    cases j with
    | zero =>
      have hk : k = 2 := by have := HJ.out; omega
      subst hk
      rw [List.take_of_length_le (by rw [endB_length]; exact Nat.le_refl _)] at hR
      go_wp2_with fail
      go_ret2
      rw [HV.out]
      exact ⟨_, rfl, hR, hBr⟩
    | succ i =>
      have hi : i ≤ 3 := by have := HJ.out; omega
      rw [show ((i + 1 : Nat) : Int) - 1 = (i : Int) from by omega]
      have e8 : wrap64 (8 * (i : Int)) = ((8 * i : Nat) : Int) := by unfold wrap64; omega
      have eb := byte_pow v i
      have EB := Lib.hid eb
      clear eb
      have et := endB_take (v := v) (n := 2) (k := k) (i := i) (by have := HJ.out; omega)
      have ET := Lib.hid et
      clear et
      have g0 : decide ((i : Int) ≥ 0) = true := by simp
      have g1 : decide (((8 * i : Nat) : Int) < 0) = false := by simp; omega
      have em : IntKind.i64.wrap ((i : Int) - 1) = (i : Int) - 1 := by rw [i64_w]; unfold wrap64; omega
      go_wp2_with (first | ((with_reducible refine gate_dst (N := 37) rfl ?_); refine Kd.R_append (Kd.int .u8) _ rfl (.tmp 30) (.tmp 36) 122 5 (.int .u8 0) 1 rfl Try.underlying122 hinfo rfl (by decide) (by decide) _ _ ((v : Int) / 2 ^ (8 * i) % 256) [.int .u8 ((v : Int) / 2 ^ (8 * i) % 256)] (fun _ => True) (fun _ => False) rfl rfl ?aM (fun _ h => h.elim) (fun _ _ => trivial) hR hBr hBr.size ?aZ ?_; (case aM => exact rfl); (case aZ => rw [ints_length, List.length_take, endB_length]; have := HJ.out; omega); intro v6 w6 hR6 hb6 hg6 hn6) | fail)
      refine ⟨⟨i, k + 1, by have := HJ.out; omega, rfl, ?_, hb6⟩, ?_⟩
      · rw [ET.out]
        rw [EB.out] at hR6
        simpa [ints] using hR6
      · simp [intOf] <;> omega

set_option maxRecDepth 100000 in
set_option maxHeartbeats 2000000 in
theorem of5 {l : List Nat} (hl : ∀ x ∈ l, x < 256) {A : Option Addr} {n c : Nat} (hn : l.length = n) (hm : n < 9223372036854775807) (hc : n ≤ c) (w : World) (hC : Kd.C (Kd.int .u8) w A n (ints l)) :
    Calls Try.prog 71 #[.string ⟨#[99, 114, 99, 56]⟩, .slice A n c] w fun e w' => ∃ v, e = .returned (.tuple #[v, .int .i64 0]) ∧ Kd.R (Kd.int .u8) 5 w' w.heap.size (fun _ => True) v (ints (endB 1 (CrcPlain.sum 8 7 0 false 0 l))) ∧ Below w.heap.size w w' := by
  have hinfo := info_u8
  go_enter Try.func71, Try.ntmps71
  go_wp2_with fail
  refine (kinds_calls _).mono ?_
  rintro e w1 ⟨m, b1, b2, b3, b4, rfl, hm1, hT, hB⟩
  have hlk := (run_look (P := Try.prog) (t := 151) (s := ⟨#[99, 114, 99, 56]⟩) Try.underlying151 Try.underlying9 hT.m).1 5 (.agg #[.int .i64 1, .func (.func 103) #[] #[.pointer (some ⟨b1, 0, none⟩)]]) (by kernel_rfl)
  have kx := blk_new w1 (.cells #[.int .i64 1, .func (.func 103) #[] #[.pointer (some ⟨b1, 0, none⟩)]] 149)
  have hb1 := below_alloc (Below.refl w1.heap.size w1) (.cells #[.int .i64 1, .func (.func 103) #[] #[.pointer (some ⟨b1, 0, none⟩)]] 149)
  have hT2 := hT.step hb1
  have hC2 := Kd.C_below (Kd.C_below hC hB) hb1
  replace hB := bthen hB hb1
  have x0 : (w1.alloc (.cells #[.int .i64 1, .func (.func 103) #[] #[.pointer (some ⟨b1, 0, none⟩)]] 149)).cell? ⟨w1.heap.size, 0, none⟩ = some (.int .i64 1) := blk_cell kx 0
  have x1 : (w1.alloc (.cells #[.int .i64 1, .func (.func 103) #[] #[.pointer (some ⟨b1, 0, none⟩)]] 149)).cell? ⟨w1.heap.size, 1, none⟩ = some (.func (.func 103) #[] #[.pointer (some ⟨b1, 0, none⟩)]) := blk_cell kx 1
  have hcall := dsum0 hl hn hm hc b1 _ hT2.k1 hC2
  have HCALL := Lib.hid hcall
  clear hcall
  go_wp2_with fail
  refine HCALL.out.mono ?_
  rintro e w2 ⟨rfl, hb2⟩
  obtain ⟨v, hv⟩ : ∃ v, CrcPlain.sum 8 7 0 false 0 l = v := ⟨_, rfl⟩
  rw [hv]
  have HV := Lib.hid hv
  have y0 : w2.cell? ⟨w1.heap.size, 0, none⟩ = some (.int .i64 1) := blk_cell (blk_below kx hb2) 0
  replace hB := bthen hB hb2
  clear hb2 x0 x1 kx hT hT2 hC2 hb1 hlk HCALL hv
  go_wp2_with fail
  clear y0
  go_loopw [9, 10] (RelO w 1 v) (fun _ i _ => (intOf i + 1).toNat)
  case atStart => exact ⟨1, 0, rfl, rfl, Kd.R_nil _ _ _ _ _, hB⟩
  case round =>
    obtain ⟨j, k, hjk, rfl, hR, hBr⟩ := hrel
    rename_i s9 _
    have HJ := Lib.hid hjk
    clear hjk
    cases j with
    | zero =>
      have hk : k = 1 := by have := HJ.out; omega
      subst hk
      rw [List.take_of_length_le (by rw [endB_length]; exact Nat.le_refl _)] at hR
      go_wp2_with fail
      go_ret2
      rw [HV.out]
      exact ⟨_, rfl, hR, hBr⟩
    | succ i =>
      have hi : i ≤ 3 := by have := HJ.out; omega
      rw [show ((i + 1 : Nat) : Int) - 1 = (i : Int) from by omega]
      have e8 : wrap64 (8 * (i : Int)) = ((8 * i : Nat) : Int) := by unfold wrap64; omega
      have eb := byte_pow v i
      have EB := Lib.hid eb
      clear eb
      have et := endB_take (v := v) (n := 1) (k := k) (i := i) (by have := HJ.out; omega)
      have ET := Lib.hid et
      clear et
      have g0 : decide ((i : Int) ≥ 0) = true := by simp
      have g1 : decide (((8 * i : Nat) : Int) < 0) = false := by simp; omega
      have em : IntKind.i64.wrap ((i : Int) - 1) = (i : Int) - 1 := by rw [i64_w]; unfold wrap64; omega
      go_wp2_with (first | ((with_reducible refine gate_dst (N := 37) rfl ?_); refine Kd.R_append (Kd.int .u8) _ rfl (.tmp 30) (.tmp 36) 122 5 (.int .u8 0) 1 rfl Try.underlying122 hinfo rfl (by decide) (by decide) _ _ ((v : Int) / 2 ^ (8 * i) % 256) [.int .u8 ((v : Int) / 2 ^ (8 * i) % 256)] (fun _ => True) (fun _ => False) rfl rfl ?aM (fun _ h => h.elim) (fun _ _ => trivial) hR hBr hBr.size ?aZ ?_; (case aM => exact rfl); (case aZ => rw [ints_length, List.length_take, endB_length]; have := HJ.out; omega); intro v6 w6 hR6 hb6 hg6 hn6) | fail)
      refine ⟨⟨i, k + 1, by have := HJ.out; omega, rfl, ?_, hb6⟩, ?_⟩
      · rw [ET.out]
        rw [EB.out] at hR6
        simpa [ints] using hR6
      · simp [intOf] <;> omega

set_option maxRecDepth 100000 in
set_option maxHeartbeats 2000000 in
theorem of6 {l : List Nat} (hl : ∀ x ∈ l, x < 256) {A : Option Addr} {n c : Nat} (hn : l.length = n) (hm : n < 9223372036854775807) (hc : n ≤ c) (w : World) (hC : Kd.C (Kd.int .u8) w A n (ints l)) :
    Calls Try.prog 71 #[.string ⟨#[99, 114, 99, 49, 54]⟩, .slice A n c] w fun e w' => ∃ v, e = .returned (.tuple #[v, .int .i64 0]) ∧ Kd.R (Kd.int .u8) 5 w' w.heap.size (fun _ => True) v (ints (endB 2 (CrcPlain.sum 16 32773 0 true 0 l))) ∧ Below w.heap.size w w' := by
  have hinfo := info_u8
  go_enter Try.func71, Try.ntmps71
  go_wp2_with fail
  refine (kinds_calls _).mono ?_
  rintro e w1 ⟨m, b1, b2, b3, b4, rfl, hm1, hT, hB⟩
  have hlk := (run_look (P := Try.prog) (t := 151) (s := ⟨#[99, 114, 99, 49, 54]⟩) Try.underlying151 Try.underlying9 hT.m).1 6 (.agg #[.int .i64 2, .func (.func 103) #[] #[.pointer (some ⟨b2, 0, none⟩)]]) (by kernel_rfl)
  have kx := blk_new w1 (.cells #[.int .i64 2, .func (.func 103) #[] #[.pointer (some ⟨b2, 0, none⟩)]] 149)
  have hb1 := below_alloc (Below.refl w1.heap.size w1) (.cells #[.int .i64 2, .func (.func 103) #[] #[.pointer (some ⟨b2, 0, none⟩)]] 149)
  have hT2 := hT.step hb1
  have hC2 := Kd.C_below (Kd.C_below hC hB) hb1
  replace hB := bthen hB hb1
  have x0 : (w1.alloc (.cells #[.int .i64 2, .func (.func 103) #[] #[.pointer (some ⟨b2, 0, none⟩)]] 149)).cell? ⟨w1.heap.size, 0, none⟩ = some (.int .i64 2) := blk_cell kx 0
  have x1 : (w1.alloc (.cells #[.int .i64 2, .func (.func 103) #[] #[.pointer (some ⟨b2, 0, none⟩)]] 149)).cell? ⟨w1.heap.size, 1, none⟩ = some (.func (.func 103) #[] #[.pointer (some ⟨b2, 0, none⟩)]) := blk_cell kx 1
  have hcall := dsum1 hl hn hm hc b2 _ hT2.k2 hC2
  have HCALL := Lib.hid hcall
  clear hcall
  go_wp2_with fail
  refine HCALL.out.mono ?_
  rintro e w2 ⟨rfl, hb2⟩
  obtain ⟨v, hv⟩ : ∃ v, CrcPlain.sum 16 32773 0 true 0 l = v := ⟨_, rfl⟩
  rw [hv]
  have HV := Lib.hid hv
  have y0 : w2.cell? ⟨w1.heap.size, 0, none⟩ = some (.int .i64 2) := blk_cell (blk_below kx hb2) 0
  replace hB := bthen hB hb2
  clear hb2 x0 x1 kx hT hT2 hC2 hb1 hlk HCALL hv
  go_wp2_with fail
  clear y0
  go_loopw [9, 10] (RelO w 2 v) (fun _ i _ => (intOf i + 1).toNat)
  case atStart => exact ⟨2, 0, rfl, rfl, Kd.R_nil _ _ _ _ _, hB⟩
  case round =>
    obtain ⟨j, k, hjk, rfl, hR, hBr⟩ := hrel
    rename_i s9 _
    have HJ := Lib.hid hjk
    clear hjk
    cases j with
    | zero =>
      have hk : k = 2 := by have := HJ.out; omega
      subst hk
      rw [List.take_of_length_le (by rw [endB_length]; exact Nat.le_refl _)] at hR
      go_wp2_with fail
      go_ret2
      rw [HV.out]
      exact ⟨_, rfl, hR, hBr⟩
    | succ i =>
      have hi : i ≤ 3 := by have := HJ.out; omega
      rw [show ((i + 1 : Nat) : Int) - 1 = (i : Int) from by omega]
      have e8 : wrap64 (8 * (i : Int)) = ((8 * i : Nat) : Int) := by unfold wrap64; omega
      have eb := byte_pow v i
      have EB := Lib.hid eb
      clear eb
      have et := endB_take (v := v) (n := 2) (k := k) (i := i) (by have := HJ.out; omega)
      have ET := Lib.hid et
      clear et
      have g0 : decide ((i : Int) ≥ 0) = true := by simp
      have g1 : decide (((8 * i : Nat) : Int) < 0) = false := by simp; omega
      have em : IntKind.i64.wrap ((i : Int) - 1) = (i : Int) - 1 := by rw [i64_w]; unfold wrap64; omega
      go_wp2_with (first | ((with_reducible refine gate_dst (N := 37) rfl ?_); refine Kd.R_append (Kd.int .u8) _ rfl (.tmp 30) (.tmp 36) 122 5 (.int .u8 0) 1 rfl Try.underlying122 hinfo rfl (by decide) (by decide) _ _ ((v : Int) / 2 ^ (8 * i) % 256) [.int .u8 ((v : Int) / 2 ^ (8 * i) % 256)] (fun _ => True) (fun _ => False) rfl rfl ?aM (fun _ h => h.elim) (fun _ _ => trivial) hR hBr hBr.size ?aZ ?_; (case aM => exact rfl); (case aZ => rw [ints_length, List.length_take, endB_length]; have := HJ.out; omega); intro v6 w6 hR6 hb6 hg6 hn6) | fail)
      refine ⟨⟨i, k + 1, by have := HJ.out; omega, rfl, ?_, hb6⟩, ?_⟩
      · rw [ET.out]
        rw [EB.out] at hR6
        simpa [ints] using hR6
      · simp [intOf] <;> omega

set_option maxRecDepth 100000 in
set_option maxHeartbeats 2000000 in
theorem of7 {l : List Nat} (hl : ∀ x ∈ l, x < 256) {A : Option Addr} {n c : Nat} (hn : l.length = n) (hm : n < 9223372036854775807) (hc : n ≤ c) (w : World) (hC : Kd.C (Kd.int .u8) w A n (ints l)) :
    Calls Try.prog 71 #[.string ⟨#[99, 99, 105, 116, 116]⟩, .slice A n c] w fun e w' => ∃ v, e = .returned (.tuple #[v, .int .i64 0]) ∧ Kd.R (Kd.int .u8) 5 w' w.heap.size (fun _ => True) v (ints (endB 2 (CrcPlain.sum 16 4129 65535 false 0 l))) ∧ Below w.heap.size w w' := by
  have hinfo := info_u8
  go_enter Try.func71, Try.ntmps71
  go_wp2_with fail
  refine (kinds_calls _).mono ?_
  rintro e w1 ⟨m, b1, b2, b3, b4, rfl, hm1, hT, hB⟩
  have hlk := (run_look (P := Try.prog) (t := 151) (s := ⟨#[99, 99, 105, 116, 116]⟩) Try.underlying151 Try.underlying9 hT.m).1 7 (.agg #[.int .i64 2, .func (.func 103) #[] #[.pointer (some ⟨b3, 0, none⟩)]]) (by kernel_rfl)
  have kx := blk_new w1 (.cells #[.int .i64 2, .func (.func 103) #[] #[.pointer (some ⟨b3, 0, none⟩)]] 149)
  have hb1 := below_alloc (Below.refl w1.heap.size w1) (.cells #[.int .i64 2, .func (.func 103) #[] #[.pointer (some ⟨b3, 0, none⟩)]] 149)
  have hT2 := hT.step hb1
  have hC2 := Kd.C_below (Kd.C_below hC hB) hb1
  replace hB := bthen hB hb1
  have x0 : (w1.alloc (.cells #[.int .i64 2, .func (.func 103) #[] #[.pointer (some ⟨b3, 0, none⟩)]] 149)).cell? ⟨w1.heap.size, 0, none⟩ = some (.int .i64 2) := blk_cell kx 0
  have x1 : (w1.alloc (.cells #[.int .i64 2, .func (.func 103) #[] #[.pointer (some ⟨b3, 0, none⟩)]] 149)).cell? ⟨w1.heap.size, 1, none⟩ = some (.func (.func 103) #[] #[.pointer (some ⟨b3, 0, none⟩)]) := blk_cell kx 1
  have hcall := dsum2 hl hn hm hc b3 _ hT2.k3 hC2
  have HCALL := Lib.hid hcall
  clear hcall
  go_wp2_with fail
  refine HCALL.out.mono ?_
  rintro e w2 ⟨rfl, hb2⟩
  obtain ⟨v, hv⟩ : ∃ v, CrcPlain.sum 16 4129 65535 false 0 l = v := ⟨_, rfl⟩
  rw [hv]
  have HV := Lib.hid hv
  have y0 : w2.cell? ⟨w1.heap.size, 0, none⟩ = some (.int .i64 2) := blk_cell (blk_below kx hb2) 0
  replace hB := bthen hB hb2
  clear hb2 x0 x1 kx hT hT2 hC2 hb1 hlk HCALL hv
  go_wp2_with fail
  clear y0
  go_loopw [9, 10] (RelO w 2 v) (fun _ i _ => (intOf i + 1).toNat)
  case atStart => exact ⟨2, 0, rfl, rfl, Kd.R_nil _ _ _ _ _, hB⟩
  case round =>
    obtain ⟨j, k, hjk, rfl, hR, hBr⟩ := hrel
    rename_i s9 _
    have HJ := Lib.hid hjk
    clear hjk
    cases j with
    | zero =>
      have hk : k = 2 := by have := HJ.out; omega
      subst hk
      rw [List.take_of_length_le (by rw [endB_length]; exact Nat.le_refl _)] at hR
      go_wp2_with fail
      go_ret2
      rw [HV.out]
      exact ⟨_, rfl, hR, hBr⟩
    | succ i =>
      have hi : i ≤ 3 := by have := HJ.out; omega
      rw [show ((i + 1 : Nat) : Int) - 1 = (i : Int) from by omega]
      have e8 : wrap64 (8 * (i : Int)) = ((8 * i : Nat) : Int) := by unfold wrap64; omega
      have eb := byte_pow v i
      have EB := Lib.hid eb
      clear eb
      have et := endB_take (v := v) (n := 2) (k := k) (i := i) (by have := HJ.out; omega)
      have ET := Lib.hid et
      clear et
      have g0 : decide ((i : Int) ≥ 0) = true := by simp
      have g1 : decide (((8 * i : Nat) : Int) < 0) = false := by simp; omega
      have em : IntKind.i64.wrap ((i : Int) - 1) = (i : Int) - 1 := by rw [i64_w]; unfold wrap64; omega
      go_wp2_with (first | ((with_reducible refine gate_dst (N := 37) rfl ?_); refine Kd.R_append (Kd.int .u8) _ rfl (.tmp 30) (.tmp 36) 122 5 (.int .u8 0) 1 rfl Try.underlying122 hinfo rfl (by decide) (by decide) _ _ ((v : Int) / 2 ^ (8 * i) % 256) [.int .u8 ((v : Int) / 2 ^ (8 * i) % 256)] (fun _ => True) (fun _ => False) rfl rfl ?aM (fun _ h => h.elim) (fun _ _ => trivial) hR hBr hBr.size ?aZ ?_; (case aM => exact rfl); (case aZ => rw [ints_length, List.length_take, endB_length]; have := HJ.out; omega); intro v6 w6 hR6 hb6 hg6 hn6) | fail)
      refine ⟨⟨i, k + 1, by have := HJ.out; omega, rfl, ?_, hb6⟩, ?_⟩
      · rw [ET.out]
        rw [EB.out] at hR6
        simpa [ints] using hR6
      · simp [intOf] <;> omega

set_option maxRecDepth 100000 in
set_option maxHeartbeats 2000000 in
theorem of8 {l : List Nat} (hl : ∀ x ∈ l, x < 256) {A : Option Addr} {n c : Nat} (hn : l.length = n) (hm : n < 9223372036854775807) (hc : n ≤ c) (w : World) (hC : Kd.C (Kd.int .u8) w A n (ints l)) :
    Calls Try.prog 71 #[.string ⟨#[99, 114, 99, 51, 50]⟩, .slice A n c] w fun e w' => ∃ v, e = .returned (.tuple #[v, .int .i64 0]) ∧ Kd.R (Kd.int .u8) 5 w' w.heap.size (fun _ => True) v (ints (endB 4 (CrcPlain.sum 32 79764919 4294967295 true 4294967295 l))) ∧ Below w.heap.size w w' := by
  have hinfo := info_u8
  go_enter Try.func71, Try.ntmps71
  go_wp2_with fail
  refine (kinds_calls _).mono ?_
  rintro e w1 ⟨m, b1, b2, b3, b4, rfl, hm1, hT, hB⟩
  have hlk := (run_look (P := Try.prog) (t := 151) (s := ⟨#[99, 114, 99, 51, 50]⟩) Try.underlying151 Try.underlying9 hT.m).1 8 (.agg #[.int .i64 4, .func (.func 103) #[] #[.pointer (some ⟨b4, 0, none⟩)]]) (by kernel_rfl)
  have kx := blk_new w1 (.cells #[.int .i64 4, .func (.func 103) #[] #[.pointer (some ⟨b4, 0, none⟩)]] 149)
  have hb1 := below_alloc (Below.refl w1.heap.size w1) (.cells #[.int .i64 4, .func (.func 103) #[] #[.pointer (some ⟨b4, 0, none⟩)]] 149)
  have hT2 := hT.step hb1
  have hC2 := Kd.C_below (Kd.C_below hC hB) hb1
  replace hB := bthen hB hb1
  have x0 : (w1.alloc (.cells #[.int .i64 4, .func (.func 103) #[] #[.pointer (some ⟨b4, 0, none⟩)]] 149)).cell? ⟨w1.heap.size, 0, none⟩ = some (.int .i64 4) := blk_cell kx 0
  have x1 : (w1.alloc (.cells #[.int .i64 4, .func (.func 103) #[] #[.pointer (some ⟨b4, 0, none⟩)]] 149)).cell? ⟨w1.heap.size, 1, none⟩ = some (.func (.func 103) #[] #[.pointer (some ⟨b4, 0, none⟩)]) := blk_cell kx 1
  have hcall := dsum3 hl hn hm hc b4 _ hT2.k4 hC2
  have HCALL := Lib.hid hcall
  clear hcall
  go_wp2_with fail
  refine HCALL.out.mono ?_
  rintro e w2 ⟨rfl, hb2⟩
  obtain ⟨v, hv⟩ : ∃ v, CrcPlain.sum 32 79764919 4294967295 true 4294967295 l = v := ⟨_, rfl⟩
  rw [hv]
  have HV := Lib.hid hv
  have y0 : w2.cell? ⟨w1.heap.size, 0, none⟩ = some (.int .i64 4) := blk_cell (blk_below kx hb2) 0
  replace hB := bthen hB hb2
  clear hb2 x0 x1 kx hT hT2 hC2 hb1 hlk HCALL hv
  go_wp2_with fail
  clear y0
  go_loopw [9, 10] (RelO w 4 v) (fun _ i _ => (intOf i + 1).toNat)
  case atStart => exact ⟨4, 0, rfl, rfl, Kd.R_nil _ _ _ _ _, hB⟩
  case round =>
    obtain ⟨j, k, hjk, rfl, hR, hBr⟩ := hrel
    rename_i s9 _
    have HJ := Lib.hid hjk
    clear hjk
    cases j with
    | zero =>
      have hk : k = 4 := by have := HJ.out; omega
      subst hk
      rw [List.take_of_length_le (by rw [endB_length]; exact Nat.le_refl _)] at hR
      go_wp2_with fail
      go_ret2
      rw [HV.out]
      exact ⟨_, rfl, hR, hBr⟩
    | succ i =>
      have hi : i ≤ 3 := by have := HJ.out; omega
      rw [show ((i + 1 : Nat) : Int) - 1 = (i : Int) from by omega]
      have e8 : wrap64 (8 * (i : Int)) = ((8 * i : Nat) : Int) := by unfold wrap64; omega
      have eb := byte_pow v i
      have EB := Lib.hid eb
      clear eb
      have et := endB_take (v := v) (n := 4) (k := k) (i := i) (by have := HJ.out; omega)
      have ET := Lib.hid et
      clear et
      have g0 : decide ((i : Int) ≥ 0) = true := by simp
      have g1 : decide (((8 * i : Nat) : Int) < 0) = false := by simp; omega
      have em : IntKind.i64.wrap ((i : Int) - 1) = (i : Int) - 1 := by rw [i64_w]; unfold wrap64; omega
      go_wp2_with (first | ((with_reducible refine gate_dst (N := 37) rfl ?_); refine Kd.R_append (Kd.int .u8) _ rfl (.tmp 30) (.tmp 36) 122 5 (.int .u8 0) 1 rfl Try.underlying122 hinfo rfl (by decide) (by decide) _ _ ((v : Int) / 2 ^ (8 * i) % 256) [.int .u8 ((v : Int) / 2 ^ (8 * i) % 256)] (fun _ => True) (fun _ => False) rfl rfl ?aM (fun _ h => h.elim) (fun _ _ => trivial) hR hBr hBr.size ?aZ ?_; (case aM => exact rfl); (case aZ => rw [ints_length, List.length_take, endB_length]; have := HJ.out; omega); intro v6 w6 hR6 hb6 hg6 hn6) | fail)
      refine ⟨⟨i, k + 1, by have := HJ.out; omega, rfl, ?_, hb6⟩, ?_⟩
      · rw [ET.out]
        rw [EB.out] at hR6
        simpa [ints] using hR6
      · simp [intOf] <;> omega

theorem beq_no {a b : ByteArray} (h : a ≠ b) : (a == b) = false := by
  cases e : a == b with
  | false => rfl
  | true => exact absurd ((MapKept.bytes_beq a b).1 e) h
theorem find_none {s : ByteArray} (h0 : s ≠ ⟨#[110, 111, 110, 101]⟩) (h1 : s ≠ ⟨#[115, 117, 109]⟩) (h2 : s ≠ ⟨#[108, 114, 99]⟩) (h3 : s ≠ ⟨#[120, 111, 114]⟩) (h4 : s ≠ ⟨#[102, 108, 101, 116, 99, 104, 101, 114]⟩) (h5 : s ≠ ⟨#[99, 114, 99, 56]⟩) (h6 : s ≠ ⟨#[99, 114, 99, 49, 54]⟩) (h7 : s ≠ ⟨#[99, 99, 105, 116, 116]⟩) (h8 : s ≠ ⟨#[99, 114, 99, 51, 50]⟩) (b1 b2 b3 b4 : Nat) : Instr.findNow .string (.string s) (table b1 b2 b3 b4).toList 0 = some none := by
  have g0 := beq_no h0
  have g1 := beq_no h1
  have g2 := beq_no h2
  have g3 := beq_no h3
  have g4 := beq_no h4
  have g5 := beq_no h5
  have g6 := beq_no h6
  have g7 := beq_no h7
  have g8 := beq_no h8
  simp [table, Instr.findNow, Instr.sameNow, g0, g1, g2, g3, g4, g5, g6, g7, g8]
set_option maxRecDepth 100000 in
set_option maxHeartbeats 2000000 in
theorem of_unknown {s : ByteArray} (h0 : s ≠ ⟨#[110, 111, 110, 101]⟩) (h1 : s ≠ ⟨#[115, 117, 109]⟩) (h2 : s ≠ ⟨#[108, 114, 99]⟩) (h3 : s ≠ ⟨#[120, 111, 114]⟩) (h4 : s ≠ ⟨#[102, 108, 101, 116, 99, 104, 101, 114]⟩) (h5 : s ≠ ⟨#[99, 114, 99, 56]⟩) (h6 : s ≠ ⟨#[99, 114, 99, 49, 54]⟩) (h7 : s ≠ ⟨#[99, 99, 105, 116, 116]⟩) (h8 : s ≠ ⟨#[99, 114, 99, 51, 50]⟩) (A : Option Addr) (n c : Nat) (w : World) :
    Calls Try.prog 71 #[.string s, .slice A n c] w fun e w' => e = .returned (.tuple #[.slice none 0 0, .int .i64 4]) ∧ Below w.heap.size w w' := by
  have hf := find_none h0 h1 h2 h3 h4 h5 h6 h7 h8
  have HF := Lib.hid hf
  clear hf h0 h1 h2 h3 h4 h5 h6 h7 h8
  go_enter Try.func71, Try.ntmps71
  go_wp2_with fail
  refine (kinds_calls _).mono ?_
  rintro e w1 ⟨m, b1, b2, b3, b4, rfl, hm1, hT, hB⟩
  have hlk := (run_look (P := Try.prog) (t := 151) (s := s) Try.underlying151 Try.underlying9 hT.m).2 (.agg #[.int .i64 0, .nilFunc]) (HF.out b1 b2 b3 b4) (by kernel_rfl)
  replace hB := bthen hB (below_alloc (Below.refl w1.heap.size w1) (.cells #[.int .i64 0, .nilFunc] 149))
  go_wp2_with fail
  go_ret2
  exact ⟨rfl, hB⟩
end Go.Proofs.Ytcldlfhnmkogeaa.Sums

/- What the laws of layer 5 share: the document's example. -/
set_option linter.unusedVariables false
set_option linter.unusedSimpArgs false
namespace Go.Proofs.Ytcldlfhnmkogeaa.Sums
open Go.RowKit Go.Proofs.YtcldlfhnmkogeaaW.PrintWords Go.Proofs.YtcldlfhnmkogeaaW.PrintLast Go.Proofs.Ytcldlfhnmkogeaa.Nats Go.Proofs.Ytcldlfhnmkogeaa.HeapKit Go.Proofs.Ytcldlfhnmkogeaa.CrcCalls

/-- An owned row of bytes: where it lies, and what its cells are. -/
theorem list_form {w : World} {base : Nat} {ok : Nat → Prop} {v : Value} {l : List Nat} (h : Kd.R (Kd.int .u8) 5 w base ok v (ints l)) (hn : 0 < l.length) :
    ∃ g c, v = .slice (some ⟨g, 0, none⟩) l.length c ∧ l.length ≤ c ∧ base ≤ g ∧ Kd.C (Kd.int .u8) w (some ⟨g, 0, none⟩) l.length (ints l) ∧ ∀ i, i < l.length → w.cell? ⟨g, i, none⟩ = some (.int .u8 (l.getD i 0 : Nat)) := by
  obtain ⟨g, c, rfl, hg, _, _⟩ := Kd.R_form h (by rw [ints_length]; exact hn)
  have e := ints_length l
  rw [e] at h ⊢
  obtain ⟨_, h2, h3⟩ := Kd.R_reads' h
  rw [e] at h3
  refine ⟨g, c, rfl, h2, hg, h3, fun i hi => ?_⟩
  have hc := (Kd.R_celln 0 h (i : Int) (by omega) (by omega)).1
  rw [show ((i : Int)).toNat = i from rfl] at hc
  rw [hc]
  congr 2
  simp [rdOf, ints, List.getD_eq_getElem?_getD, hi]
end Go.Proofs.Ytcldlfhnmkogeaa.Sums

