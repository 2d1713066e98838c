/- Part of the proof: what the theorem needs of this text. -/
import Derived.Test.YtflekegjmjjdmaaDoorKPx0
namespace Go.Proofs.YtflekegjmjjdmaaDoor.P
open Go.RowKit Go.Proofs.YtflekegjmjjdmaaDoorW.PrintWords Go.Proofs.YtflekegjmjjdmaaDoorW.PrintLast Go.Proofs.YtflekegjmjjdmaaDoorW.PrintMore
attribute [local go_sem] max2_int min2_int max_two min_two max_three min_three max_four min_four   -- for this text's walks alone
set_option linter.unusedVariables false
set_option linter.unusedSimpArgs false
def token_solo.f (l0 : List Int) : Option (Int × Int × ByteArray × Int) := if 1 ≤ (l0.length : Int) then (some (6, 1, strOfNums (l0.take 1), 0)) else (none)
set_option maxHeartbeats 8000000 in
set_option maxRecDepth 100000 in
theorem token_solo.calls (A0 : Option Addr) (c0 : Nat) (l0 : List Int) (r1 : Int) (r2 : Int) (r3 : ByteArray) (r4 : Int) (w : World) (hr0 : Kd.C (Kd.int .u8) w A0 l0.length l0) (hc0 : l0.length ≤ c0) (h : token_solo.f l0 = some (r1, r2, r3, r4)) :
  Calls Tryd.prog 28 #[.slice A0 l0.length c0] w fun e w' => e = .returned (.tuple #[.int .i64 r1, .int .i64 r2, .string r3, .int .i64 r4]) ∧ Drawn0 w w' := by
 have HR0 := Aside0.mk hr0
 have HC0 := Aside0.mk hc0
 clear hr0 hc0
 have H : (if 1 ≤ (l0.length : Int) then (some (6, 1, strOfNums (l0.take 1), 0)) else (none)) = some (r1, r2, r3, r4) := h
 clear h
 by_cases c2 : 1 ≤ (l0.length : Int)
 ·rw [if_pos c2] at H
  have c2b0 := eq_true c2
  have c2b1 := decide_eq_true c2
  clear c2
  simp only [Option.some.injEq, Prod.mk.injEq] at H
  obtain ⟨rfl, rfl, rfl, rfl⟩ := H
  obtain ⟨i03, hi03, _, hsz3, _⟩ := info_parts info5
  obtain ⟨hcut3, hA3, hC3⟩ := print_take_of (P := Tryd.prog) (Value.int .u8) 0 22 5 .i64 Tryd.underlying22 hi03 hsz3 A0 c0 l0 1 (by omega) dt HC0.out
  have HR150 := Aside0.mk (Kd.C_of_reads (h1 := fun _ => rfl) (hA3 _ (Kd.reads_of_C HR0.out)))
  have HC150 := Aside0.mk hC3
  clear hA3 hC3 hi03 hsz3
  have hcv4 := Kd.C_string (P := Tryd.prog) (A := A0) (c := c0) Tryd.underlying22 Tryd.underlying5 Tryd.underlying9 HR150.out
  have hcv4z := hcv4
  (try rw [List.length_drop, List.length_take, Nat.min_eq_left (Int.toNat_le.mpr dt)] at hcv4z)
  have hcv4y := hcv4
  (try rw [List.length_take, Nat.min_eq_left (Int.toNat_le.mpr dt)] at hcv4y)
  have hcv4x := hcv4
  (try rw [List.length_take, mM] at hcv4x)
  have hcv4m := hcv4
  (try simp only [Int.reduceToNat, List.length_take] at hcv4m)
  have hcv4q := fun (q_ : Nat) => Kd.C_string (P := Tryd.prog) (A := A0) (c := c0) Tryd.underlying22 Tryd.underlying5 Tryd.underlying9 (Kd.C_drewN HR150.out q_)
  have hcv4qy := hcv4q
  (try simp only [List.length_take, Nat.min_eq_left (Int.toNat_le.mpr dt)] at hcv4qy)
  have hcv4qw := hcv4q
  (try simp only [Int.reduceToNat] at hcv4qw)
  have hcv4qv := hcv4qy
  (try simp only [Int.reduceToNat] at hcv4qv)
  have hcv4qu := hcv4q
  (try simp only [Int.reduceToNat, List.length_take] at hcv4qu)
  go_enter Tryd.func28, Tryd.ntmps28
  go_wp2
  repeat (go_quiet (fail); try go_wp2)
  refine bodyPost_ret (results_list (rs := [.tmp 2, .tmp 3, .tmp 4, .tmp 5]) rfl (by simp) (.tmp (.tmp (.tmp (.tmp .nil))))) rfl ?_
  exact ⟨by first | rfl | (simp; done) | (simp [*]; done), by repeat (first | exact Drawn0.refl _ | apply Drawn0.step)⟩
 ·exact nB H c2
def token_other.f (l0 : List Int) : Option (Int × Int × ByteArray × Int) := some (0, 1, (⟨#[]⟩ : ByteArray), 11)
set_option maxHeartbeats 8000000 in
set_option maxRecDepth 100000 in
theorem token_other.calls (A0 : Option Addr) (c0 : Nat) (l0 : List Int) (r1 : Int) (r2 : Int) (r3 : ByteArray) (r4 : Int) (w : World) (hr0 : Kd.C (Kd.int .u8) w A0 l0.length l0) (hc0 : l0.length ≤ c0) (h : token_other.f l0 = some (r1, r2, r3, r4)) :
  Calls Tryd.prog 16 #[.slice A0 l0.length c0] w fun e w' => e = .returned (.tuple #[.int .i64 r1, .int .i64 r2, .string r3, .int .i64 r4]) ∧ Drawn0 w w' := by
 have HR0 := Aside0.mk hr0
 have HC0 := Aside0.mk hc0
 clear hr0 hc0
 have H : (some (0, 1, (⟨#[]⟩ : ByteArray), 11)) = some (r1, r2, r3, r4) := h
 clear h
 simp only [Option.some.injEq, Prod.mk.injEq] at H
 obtain ⟨rfl, rfl, rfl, rfl⟩ := H
 go_enter Tryd.func16, Tryd.ntmps16
 go_wp2
 refine bodyPost_ret (results_list (rs := [.tmp 2, .tmp 3, .tmp 4, .tmp 5]) rfl (by simp) (.tmp (.tmp (.tmp (.tmp .nil))))) rfl ?_
 exact ⟨by first | rfl | (simp; done) | (simp [*]; done), by repeat (first | exact Drawn0.refl _ | apply Drawn0.step)⟩
end Go.Proofs.YtflekegjmjjdmaaDoor.P
