/- Part of the proof: what the theorem needs of this text. -/
import Derived.Test.YtflekegjmjjdmaaDoorKHG
import Derived.Test.YtflekegjmjjdmaaDoorKHTN
import Derived.Test.YtflekegjmjjdmaaDoorKPx2
import Derived.Test.YtflekegjmjjdmaaDoorKPx3
import Derived.Test.YtflekegjmjjdmaaDoorKPx4
import Derived.Test.YtflekegjmjjdmaaDoorKPx5
import Derived.Test.YtflekegjmjjdmaaDoorKPx7
namespace Go.Proofs.YtflekegjmjjdmaaDoor.P
set_option linter.unusedSimpArgs false
set_option linter.unusedVariables false
open Go.RowKit Go.Proofs.YtflekegjmjjdmaaDoorW.PrintWords Go.Proofs.YtflekegjmjjdmaaDoorW.PrintLast Go.Proofs.YtflekegjmjjdmaaDoorW.PrintMore
theorem cellAt {w W : World} {g t : Nat} {v : Value} (hB : Below w.heap.size w W) (hg : w.heap[g]? = some (.cells #[v] t)) : W.cell? ⟨g, 0, none⟩ = some v := by
 have hl := (Array.getElem?_eq_some_iff.1 hg).1
 have := (hB.block g hl).trans hg
 rw [cell_of_row _ _ 0 _ _ _ this]; rfl
def token_named1.f (k : Nat) (kd : Int) (l0 : List Int) : Option (Int × Int × ByteArray × Int) := (token_name.f k l0).bind fun n => if 0 ≤ n then (if n ≤ (l0.length : Int) then some (kd, n, strOfNums (l0.take (n : Int).toNat), 0) else none) else none
set_option maxHeartbeats 8000000 in
set_option maxRecDepth 100000 in
theorem token_named1.calls (k : Nat) (A0 : Option Addr) (c0 : Nat) (l0 : List Int) (kd : Int) (g : Nat) (r1 : Int) (r2 : Int) (r3 : ByteArray) (r4 : Int) (w : World) (hG : Gl w) (hr0 : Kd.C (Kd.int .u8) w A0 l0.length l0) (hc0 : l0.length ≤ c0) (hg : w.heap[g]? = some (.cells #[.int .i64 kd] 3)) (h : token_named1.f k kd l0 = some (r1, r2, r3, r4)) :
  Calls Tryd.prog 40 #[.slice A0 l0.length c0, .pointer (some ⟨g, 0, none⟩)] w fun e w' => e = .returned (.tuple #[.int .i64 r1, .int .i64 r2, .string r3, .int .i64 r4]) ∧ Below w.heap.size w w' := by
 have HR0 := Aside0.mk hr0
 have HC0 := Aside0.mk hc0
 have HGG := Aside0.mk hg
 clear hr0 hc0 hg
 have HB := Aside0.mk (Below.refl w.heap.size w)
 have HG := Aside0.mk hG
 clear hG
 unfold token_named1.f at h
 obtain ⟨n, A20, H⟩ := Option.bind_eq_some_iff.mp h
 clear h
 have A2 := Aside0.mk A20
 clear A20
 by_cases c3 : 0 ≤ n
 ·rw [if_pos c3] at H
  have c3b0 := eq_true c3
  have c3b1 : decide (0 ≤ n) = true := decide_eq_true c3
  clear c3
  by_cases c4 : n ≤ (l0.length : Int)
  ·rw [if_pos c4] at H
   have c4b0 := eq_true c4
   have c4b1 : decide (n ≤ (l0.length : Int)) = true := decide_eq_true c4
   clear c4
   simp only [Option.some.injEq, Prod.mk.injEq] at H
   obtain ⟨rfl, rfl, rfl, rfl⟩ := H
   go_enter Tryd.func40, Tryd.ntmps40
   go_wp2_with (first | (go_at_call 41; (with_reducible refine (token_name.calls k _ _ l0 n _ ?side1 ?side2 ?side3 A2.out).mono ?_); (case side1 => exact Gl.below HG.out (by repeat (first | (with_reducible first | exact HB.out | apply below_alloc | apply pw_below_drewN | apply below_drew1) | exact HB.out))); (case side2 => repeat (first | exact HR0.out | (with_reducible refine Kd.C_alloc ?_ _) | (with_reducible refine Kd.C_drewN ?_ _) | (with_reducible refine Kd.C_drew ?_))); (case side3 => exact HC0.out); rintro e w5 ⟨rfl, hb⟩; have n0_ := Aside0.mk (below_step (by repeat (first | (with_reducible first | exact HB.out | apply below_alloc | apply pw_below_drewN | apply below_drew1) | exact HB.out)) hb); clear HB; have HB := n0_; clear n0_; (try clear hb); (try clear hb2); (try clear hk); (try clear hi); obtain ⟨i06, hi06, _, hsz6, _⟩ := info_parts info5; obtain ⟨hcut6, hA6, hC6⟩ := print_take_of (P := Tryd.prog) (Value.int .u8) 0 22 5 .i64 Tryd.underlying22 hi06 hsz6 A0 c0 l0 n (of_decide_eq_true (by first | (with_reducible assumption) | assumption)) (of_decide_eq_true (by first | (with_reducible assumption) | assumption)) HC0.out; have HR128 := Aside0.mk (Kd.C_of_reads (h1 := fun _ => rfl) (hA6 _ (Kd.reads_of_C HR0.out))); have HC128 := Aside0.mk hC6; clear hA6 hC6 hi06 hsz6; have hcv7 := Kd.C_string (P := Tryd.prog) (A := A0) (c := c0) Tryd.underlying22 Tryd.underlying5 Tryd.underlying9 (Kd.C_below HR128.out HB.out); have hcv7z := hcv7; (try rw [List.length_drop, List.length_take, Nat.min_eq_left (Int.toNat_le.mpr (of_decide_eq_true (by first | (with_reducible assumption) | assumption)))] at hcv7z); have hcv7y := hcv7; (try rw [List.length_take, Nat.min_eq_left (Int.toNat_le.mpr (of_decide_eq_true (by first | (with_reducible assumption) | assumption)))] at hcv7y); have hcv7q := fun (q_ : Nat) => Kd.C_string (P := Tryd.prog) (A := A0) (c := c0) Tryd.underlying22 Tryd.underlying5 Tryd.underlying9 (Kd.C_drewN (Kd.C_below HR128.out HB.out) q_); have hcv7qy := hcv7q; (try simp only [List.length_take, Nat.min_eq_left (Int.toNat_le.mpr (of_decide_eq_true (by first | (with_reducible assumption) | assumption)))] at hcv7qy)))
   have hcell := cellAt HB.out HGG.out
   repeat (go_quiet (first | (go_at_call 41; (with_reducible refine (token_name.calls k _ _ l0 n _ ?side1 ?side2 ?side3 A2.out).mono ?_); (case side1 => exact Gl.below HG.out (by repeat (first | (with_reducible first | exact HB.out | apply below_alloc | apply pw_below_drewN | apply below_drew1) | exact HB.out))); (case side2 => repeat (first | exact HR0.out | (with_reducible refine Kd.C_alloc ?_ _) | (with_reducible refine Kd.C_drewN ?_ _) | (with_reducible refine Kd.C_drew ?_))); (case side3 => exact HC0.out); rintro e w5 ⟨rfl, hb⟩; have n0_ := Aside0.mk (below_step (by repeat (first | (with_reducible first | exact HB.out | apply below_alloc | apply pw_below_drewN | apply below_drew1) | exact HB.out)) hb); clear HB; have HB := n0_; clear n0_; (try clear hb); (try clear hb2); (try clear hk); (try clear hi); obtain ⟨i06, hi06, _, hsz6, _⟩ := info_parts info5; obtain ⟨hcut6, hA6, hC6⟩ := print_take_of (P := Tryd.prog) (Value.int .u8) 0 22 5 .i64 Tryd.underlying22 hi06 hsz6 A0 c0 l0 n (of_decide_eq_true (by first | (with_reducible assumption) | assumption)) (of_decide_eq_true (by first | (with_reducible assumption) | assumption)) HC0.out; have HR128 := Aside0.mk (Kd.C_of_reads (h1 := fun _ => rfl) (hA6 _ (Kd.reads_of_C HR0.out))); have HC128 := Aside0.mk hC6; clear hA6 hC6 hi06 hsz6; have hcv7 := Kd.C_string (P := Tryd.prog) (A := A0) (c := c0) Tryd.underlying22 Tryd.underlying5 Tryd.underlying9 (Kd.C_below HR128.out HB.out); have hcv7z := hcv7; (try rw [List.length_drop, List.length_take, Nat.min_eq_left (Int.toNat_le.mpr (of_decide_eq_true (by first | (with_reducible assumption) | assumption)))] at hcv7z); have hcv7y := hcv7; (try rw [List.length_take, Nat.min_eq_left (Int.toNat_le.mpr (of_decide_eq_true (by first | (with_reducible assumption) | assumption)))] at hcv7y); have hcv7q := fun (q_ : Nat) => Kd.C_string (P := Tryd.prog) (A := A0) (c := c0) Tryd.underlying22 Tryd.underlying5 Tryd.underlying9 (Kd.C_drewN (Kd.C_below HR128.out HB.out) q_); have hcv7qy := hcv7q; (try simp only [List.length_take, Nat.min_eq_left (Int.toNat_le.mpr (of_decide_eq_true (by first | (with_reducible assumption) | assumption)))] at hcv7qy))); try go_wp2_with (first | (go_at_call 41; (with_reducible refine (token_name.calls k _ _ l0 n _ ?side1 ?side2 ?side3 A2.out).mono ?_); (case side1 => exact Gl.below HG.out (by repeat (first | (with_reducible first | exact HB.out | apply below_alloc | apply pw_below_drewN | apply below_drew1) | exact HB.out))); (case side2 => repeat (first | exact HR0.out | (with_reducible refine Kd.C_alloc ?_ _) | (with_reducible refine Kd.C_drewN ?_ _) | (with_reducible refine Kd.C_drew ?_))); (case side3 => exact HC0.out); rintro e w5 ⟨rfl, hb⟩; have n0_ := Aside0.mk (below_step (by repeat (first | (with_reducible first | exact HB.out | apply below_alloc | apply pw_below_drewN | apply below_drew1) | exact HB.out)) hb); clear HB; have HB := n0_; clear n0_; (try clear hb); (try clear hb2); (try clear hk); (try clear hi); obtain ⟨i06, hi06, _, hsz6, _⟩ := info_parts info5; obtain ⟨hcut6, hA6, hC6⟩ := print_take_of (P := Tryd.prog) (Value.int .u8) 0 22 5 .i64 Tryd.underlying22 hi06 hsz6 A0 c0 l0 n (of_decide_eq_true (by first | (with_reducible assumption) | assumption)) (of_decide_eq_true (by first | (with_reducible assumption) | assumption)) HC0.out; have HR128 := Aside0.mk (Kd.C_of_reads (h1 := fun _ => rfl) (hA6 _ (Kd.reads_of_C HR0.out))); have HC128 := Aside0.mk hC6; clear hA6 hC6 hi06 hsz6; have hcv7 := Kd.C_string (P := Tryd.prog) (A := A0) (c := c0) Tryd.underlying22 Tryd.underlying5 Tryd.underlying9 (Kd.C_below HR128.out HB.out); have hcv7z := hcv7; (try rw [List.length_drop, List.length_take, Nat.min_eq_left (Int.toNat_le.mpr (of_decide_eq_true (by first | (with_reducible assumption) | assumption)))] at hcv7z); have hcv7y := hcv7; (try rw [List.length_take, Nat.min_eq_left (Int.toNat_le.mpr (of_decide_eq_true (by first | (with_reducible assumption) | assumption)))] at hcv7y); have hcv7q := fun (q_ : Nat) => Kd.C_string (P := Tryd.prog) (A := A0) (c := c0) Tryd.underlying22 Tryd.underlying5 Tryd.underlying9 (Kd.C_drewN (Kd.C_below HR128.out HB.out) q_); have hcv7qy := hcv7q; (try simp only [List.length_take, Nat.min_eq_left (Int.toNat_le.mpr (of_decide_eq_true (by first | (with_reducible assumption) | assumption)))] at hcv7qy))))
   refine bodyPost_ret (results_list (rs := [.tmp 3, .tmp 4, .tmp 5, .tmp 6]) rfl (by simp) (.tmp (.tmp (.tmp (.tmp .nil))))) rfl ?_
   exact ⟨by first | rfl | (simp [errW_none, errW_some] <;> rfl) | (simp [*, errW_none, errW_some] <;> rfl), by repeat (first | (with_reducible first | exact HB.out | apply below_alloc | apply pw_below_drewN | apply below_drew1) | exact HB.out)⟩
  ·rw [if_neg c4] at H
   exact absurd H (by simp)
 ·rw [if_neg c3] at H
  exact absurd H (by simp)
def token_high.f (k : Nat) (l0 : List Int) : Option (Int × Int × ByteArray × Int) := (utf_Take.f k l0).bind fun bt => if bt.2 = true then token_named1.f k 1 l0 else some (0, 1, ⟨#[]⟩, 10)
set_option maxHeartbeats 8000000 in
set_option maxRecDepth 100000 in
theorem token_high.calls (k : Nat) (A0 : Option Addr) (c0 : Nat) (l0 : List Int) (r1 : Int) (r2 : Int) (r3 : ByteArray) (r4 : Int) (w : World) (hG : Gl w) (hr0 : Kd.C (Kd.int .u8) w A0 l0.length l0) (hc0 : l0.length ≤ c0) (h : token_high.f k l0 = some (r1, r2, r3, r4)) :
  Calls Tryd.prog 24 #[.slice A0 l0.length c0] w fun e w' => e = .returned (.tuple #[.int .i64 r1, .int .i64 r2, .string r3, .int .i64 r4]) ∧ Below w.heap.size w w' := by
 have HR0 := Aside0.mk hr0
 have HC0 := Aside0.mk hc0
 clear hr0 hc0
 have HG := Aside0.mk hG
 clear hG
 unfold token_high.f at h
 obtain ⟨⟨t1, t2⟩, A20, H⟩ := Option.bind_eq_some_iff.mp h
 clear h
 have A2 := Aside0.mk A20
 clear A20
 have hmf : ∀ (fn : Fn) (first cap : Array Value) (w : World), (Instr.makeFunc fn first cap).run Tryd.prog w = .ok (.func fn first cap) w := fun _ _ _ _ => rfl
 by_cases c3 : t2 = true
 ·subst c3
  replace H : token_named1.f k 1 l0 = some (r1, r2, r3, r4) := H
  have A3 := Aside0.mk H
  clear H
  go_enter Tryd.func24, Tryd.ntmps24
  go_wp2_with (first | (go_at_call 42; (with_reducible refine (utf_Take.calls k _ _ l0 t1 true _ ?side1 ?side2 A2.out).mono ?_); (case side1 => exact HR0.out); (case side2 => exact HC0.out); rintro e w5 ⟨rfl, hb⟩; have HB := Aside0.mk hb; clear hb) | (go_at_call 23; (refine (token_named.calls 1 _).mono ?_); rintro e w7 ⟨rfl, rfl⟩; (try simp only [namedAt])) | (go_at_call 40; (refine (token_named1.calls k _ _ l0 1 _ _ _ _ _ _ ?s1 ?s2 ?s3 ?s4 A3.out).mono ?_); (case s1 => exact Gl.below HG.out (by repeat (first | (with_reducible first | exact HB.out | apply below_alloc | apply pw_below_drewN | apply below_drew1) | exact HB.out))); (case s2 => exact Kd.C_below HR0.out (by repeat (first | (with_reducible first | exact HB.out | apply below_alloc | apply pw_below_drewN | apply below_drew1) | exact HB.out))); (case s3 => exact HC0.out); (case s4 => exact al_new _ _); rintro e w6 ⟨rfl, hb⟩; have n0_ := Aside0.mk (below_step (by repeat (first | (with_reducible first | exact HB.out | apply below_alloc | apply pw_below_drewN | apply below_drew1) | exact HB.out)) hb); clear HB; have HB := n0_; clear n0_ hb))
  refine bodyPost_ret (results_list (rs := [.tmp 2, .tmp 3, .tmp 4, .tmp 5]) rfl (by simp) (.tmp (.tmp (.tmp (.tmp .nil))))) rfl ?_
  exact ⟨rfl, (by repeat (first | (with_reducible first | exact HB.out | apply below_alloc | apply pw_below_drewN | apply below_drew1) | exact HB.out))⟩
 ·have c4 : t2 = false := by simpa using c3
  subst c4
  replace H : some ((0 : Int), (1 : Int), (⟨#[]⟩ : ByteArray), (10 : Int)) = some (r1, r2, r3, r4) := H
  simp only [Option.some.injEq, Prod.mk.injEq] at H
  obtain ⟨rfl, rfl, rfl, rfl⟩ := H
  go_enter Tryd.func24, Tryd.ntmps24
  go_wp2_with (first | (go_at_call 42; (with_reducible refine (utf_Take.calls k _ _ l0 t1 false _ ?side1 ?side2 A2.out).mono ?_); (case side1 => exact HR0.out); (case side2 => exact HC0.out); rintro e w5 ⟨rfl, hb⟩; have HB := Aside0.mk hb; clear hb))
  refine bodyPost_ret (results_list (rs := [.tmp 2, .tmp 3, .tmp 4, .tmp 5]) rfl (by simp) (.tmp (.tmp (.tmp (.tmp .nil))))) rfl ?_
  exact ⟨rfl, (by repeat (first | (with_reducible first | exact HB.out | apply below_alloc | apply pw_below_drewN | apply below_drew1) | exact HB.out))⟩
theorem token_named1.mono : ∀ kd a0 k, LeO (token_named1.f k kd a0) (token_named1.f (k + 1) kd a0) := by
 intro kd a0 k
 unfold token_named1.f
 repeat' first
   | (with_reducible exact token_name.mono _ _)
   | (with_reducible exact LeO.refl _)
   | (with_reducible exact LeO.none _)
   | (with_reducible refine LeO.ite ?_ ?_)
   | (with_reducible refine LeO.bind ?_ (fun _ => ?_))
theorem token_high.mono : ∀ a0 k, LeO (token_high.f k a0) (token_high.f (k + 1) a0) := by
 intro a0 k
 unfold token_high.f
 repeat' first
   | (with_reducible exact utf_Take.mono _ _)
   | (with_reducible exact token_named1.mono _ _ _)
   | (with_reducible exact LeO.refl _)
   | (with_reducible exact LeO.none _)
   | (with_reducible refine LeO.ite ?_ ?_)
   | (with_reducible refine LeO.bind ?_ (fun _ => ?_))
/-- what is called by the class -/
def token_scan.f (k : Nat) (c : Int) (l : List Int) : Option (Int × Int × ByteArray × Int) :=
 if c = 2 then token_named1.f k 1 l else if c = 3 then token_named1.f k 3 l else if c = 9 then token_high.f k l else if c = 5 then token_symbol.f k l else if c = 4 then token_number.f k l else if c = 7 then token_quoted.f k l else if c = 6 then token_solo.f l else if c = 0 then token_other.f l else if c = 1 then token_other.f l else if c = 8 then token_other.f l else none
theorem token_scan.mono : ∀ c a0 k, LeO (token_scan.f k c a0) (token_scan.f (k + 1) c a0) := by
 intro c a0 k
 unfold token_scan.f
 repeat' first
   | (with_reducible exact token_named1.mono _ _ _)
   | (with_reducible exact token_high.mono _ _)
   | (with_reducible exact token_symbol.mono _ _)
   | (with_reducible exact token_number.mono _ _)
   | (with_reducible exact token_quoted.mono _ _)
   | (with_reducible exact LeO.refl _)
   | (with_reducible exact LeO.none _)
   | (with_reducible refine LeO.ite ?_ ?_)
   | (with_reducible refine LeO.bind ?_ (fun _ => ?_))
/-- behind the layout -/
def token_Next.g (k : Nat) (l : List Int) (p e : Int) : Option (Int × Int × Int × ByteArray × Int × Bool) :=
 if e = 0 then (if p = (l.length : Int) then some (0, 0, 0, ⟨#[]⟩, 0, false) else if 0 ≤ p then (if p < (l.length : Int) then (class_Of.f (rd l p)).bind fun c => (token_scan.f k c (l.drop (p : Int).toNat)).bind fun t => if t.2.2.2 = 0 then some (t.1, p, wrap64 (p + t.2.1), t.2.2.1, 0, true) else some (8, p, wrap64 (p + t.2.1), ⟨#[]⟩, t.2.2.2, true) else none) else none)
 else some (8, p, (l.length : Int), ⟨#[]⟩, e, true)
def token_Next.f (k : Nat) (l : List Int) (a : Int) : Option (Int × Int × Int × ByteArray × Int × Bool) :=
 if a < 0 then some (0, 0, 0, ⟨#[]⟩, 0, false) else if a > (l.length : Int) then some (0, 0, 0, ⟨#[]⟩, 0, false) else (layout_Skip.f k (l.drop (a : Int).toNat)).bind fun s => token_Next.g k l (wrap64 (a + s.1)) s.2
theorem token_Next.mono : ∀ a0 a1 k, LeO (token_Next.f k a0 a1) (token_Next.f (k + 1) a0 a1) := by
 intro a0 a1 k
 unfold token_Next.f token_Next.g
 repeat' first
   | (with_reducible exact layout_Skip.mono _ _)
   | (with_reducible exact token_scan.mono _ _ _)
   | (with_reducible exact LeO.refl _)
   | (with_reducible exact LeO.none _)
   | (with_reducible refine LeO.ite ?_ ?_)
   | (with_reducible refine LeO.bind ?_ (fun _ => ?_))
/-- a look into a map by a number -/
theorem look_run {P : Program} {W : World} {t kt et : TypeId} {r c : Nat} {es : Array MapEntry} (ht : P.underlying t = some (.map kt et)) (hk : P.underlying kt = some (.int .i64)) (hb : W.heap[r]? = some (.map es c)) (k : Int) :
  (∀ i v, Instr.findNow (.int .i64) (.int .i64 k) es.toList 0 = some (some (i, v)) → (Instr.lookup t (.map (some r)) (.int .i64 k) true).run P W = .ok (.tuple #[v, .bool true]) W) ∧
  (∀ z, Instr.findNow (.int .i64) (.int .i64 k) es.toList 0 = some none → (zeroValue et).run P W = .ok z W → (Instr.lookup t (.map (some r)) (.int .i64 k) true).run P W = .ok (.tuple #[z, .bool false]) W) := by
 have hc : ∀ e, (Instr.checkKey e 10000 kt (.int .i64 k)).run P W = .ok () W := fun e => MapKept.run_checkKey (k := .int .i64 k) hk (by simp [MapKept.IsKey]) e 9999
 constructor
 ·intro i v hf
  simp [Instr.lookup, run_underlying ht, MapKept.run_getObj_map hb, hc, MapKept.run_findKey hk hf, Result.andThen]
 ·intro z hf hz
  simp [Instr.lookup, run_underlying ht, MapKept.run_getObj_map hb, hc, MapKept.run_findKey hk hf, hz, Result.andThen]
/-- a value that is called with bytes and scans what the class c says -/
def Callee (c : Int) (v : Value) (W : World) : Prop := ∃ (f : FuncId) (fn : Func) (cap : Array Value), v = .func (.func f) #[] cap ∧ Tryd.prog.funcs[f]? = some fn ∧ (fn.name == "runtime.NumGoroutine") = false ∧ fn.body.isSome = true ∧
 ∀ (k : Nat) (A : Option Addr) (cc : Nat) (l : List Int) (r1 r2 : Int) (r3 : ByteArray) (r4 : Int), Gl W → Kd.C (Kd.int .u8) W A l.length l → l.length ≤ cc → token_scan.f k c l = some (r1, r2, r3, r4) →
  Calls Tryd.prog f (#[.slice A l.length cc] ++ cap) W fun e w' => e = .returned (.tuple #[.int .i64 r1, .int .i64 r2, .string r3, .int .i64 r4]) ∧ Below W.heap.size W w'
theorem callee_named1 {c kd : Int} {g : Nat} {W : World} (hg : W.heap[g]? = some (.cells #[.int .i64 kd] 3)) (hs : ∀ k l, token_scan.f k c l = token_named1.f k kd l) : Callee c (namedAt g) W :=
 ⟨_, _, _, rfl, Tryd.func40, by kernel_rfl, rfl, fun k A cc l r1 r2 r3 r4 hG hr hc h => token_named1.calls k A cc l kd g r1 r2 r3 r4 W hG hr hc hg (by rw [← hs]; exact h)⟩
theorem callee_other {c : Int} {W : World} (hs : ∀ k l, token_scan.f k c l = token_other.f l) : Callee c (.func (.func 16) #[] #[]) W :=
 ⟨_, _, _, rfl, Tryd.func16, by kernel_rfl, rfl, fun k A cc l r1 r2 r3 r4 hG hr hc h => (token_other.calls A cc l r1 r2 r3 r4 W hr hc (by rw [← hs k]; exact h)).mono fun e w' hh => ⟨hh.1, hh.2.below⟩⟩
theorem callee_other_of {c : Int} (hc : c = 0 ∨ c = 1 ∨ c = 8) (W : World) : Callee c (.func (.func 16) #[] #[]) W := by
 rcases hc with rfl | rfl | rfl <;> exact callee_other (fun _ _ => rfl)
set_option maxRecDepth 100000 in
/-- what is found by a class, or that nothing is -/
theorem scan_look {B g : Nat} {W : World} (h : ScansAt B g W) {c : Int} (hc : c = 2 ∨ c = 3 ∨ c = 9 ∨ c = 5 ∨ c = 4 ∨ c = 7 ∨ c = 6 ∨ c = 0 ∨ c = 1 ∨ c = 8) :
  ∃ v is, (Instr.lookup 42 (.map (some g)) (.int .i64 c) true).run Tryd.prog W = .ok (.tuple #[v, .bool is]) W ∧ (is = true → Callee c v W) ∧ (is = false → c = 0 ∨ c = 1 ∨ c = 8) := by
 obtain ⟨g1, g2, _, _, hb, h1, h2⟩ := h
 have L := fun k => look_run (k := k) Tryd.underlying42 Tryd.underlying3 hb
 have Z : (zeroValue 40).run Tryd.prog W = .ok .nilFunc W := by
  have hz : Tryd.prog.info? 40 = Tryd.prog.info? 40 := rfl
  go_simp
  try rfl
 rcases hc with rfl | rfl | rfl | rfl | rfl | rfl | rfl | rfl | rfl | rfl
 ·exact ⟨_, true, (L 2).1 _ _ rfl, fun _ => callee_named1 h1 (fun _ _ => rfl), fun h => by cases h⟩
 ·exact ⟨_, true, (L 3).1 _ _ rfl, fun _ => callee_named1 h2 (fun _ _ => rfl), fun h => by cases h⟩
 ·exact ⟨_, true, (L 9).1 _ _ rfl, fun _ => ⟨_, _, _, rfl, Tryd.func24, by kernel_rfl, rfl, fun k A cc l r1 r2 r3 r4 hG hr hc h => token_high.calls k A cc l r1 r2 r3 r4 W hG hr hc h⟩, fun h => by cases h⟩
 ·exact ⟨_, true, (L 5).1 _ _ rfl, fun _ => ⟨_, _, _, rfl, Tryd.func25, by kernel_rfl, rfl, fun k A cc l r1 r2 r3 r4 hG hr hc h => token_symbol.calls k A cc l r1 r2 r3 r4 W hG hr hc h⟩, fun h => by cases h⟩
 ·exact ⟨_, true, (L 4).1 _ _ rfl, fun _ => ⟨_, _, _, rfl, Tryd.func26, by kernel_rfl, rfl, fun k A cc l r1 r2 r3 r4 hG hr hc h => token_number.calls k A cc l r1 r2 r3 r4 W hG hr hc h⟩, fun h => by cases h⟩
 ·exact ⟨_, true, (L 7).1 _ _ rfl, fun _ => ⟨_, _, _, rfl, Tryd.func27, by kernel_rfl, rfl, fun k A cc l r1 r2 r3 r4 hG hr hc h => token_quoted.calls k A cc l r1 r2 r3 r4 W hr hc h⟩, fun h => by cases h⟩
 ·exact ⟨_, true, (L 6).1 _ _ rfl, fun _ => ⟨_, _, _, rfl, Tryd.func28, by kernel_rfl, rfl, fun k A cc l r1 r2 r3 r4 hG hr hc h => (token_solo.calls A cc l r1 r2 r3 r4 W hr hc h).mono fun e w' hh => ⟨hh.1, hh.2.below⟩⟩, fun h => by cases h⟩
 ·exact ⟨_, false, (L 0).2 _ rfl Z, (fun h => by cases h), fun _ => .inl rfl⟩
 ·exact ⟨_, false, (L 1).2 _ rfl Z, (fun h => by cases h), fun _ => .inr (.inl rfl)⟩
 ·exact ⟨_, false, (L 8).2 _ rfl Z, (fun h => by cases h), fun _ => .inr (.inr rfl)⟩
theorem scan_class {k : Nat} {c : Int} {l : List Int} {r : Int × Int × ByteArray × Int} (h : token_scan.f k c l = some r) : c = 2 ∨ c = 3 ∨ c = 9 ∨ c = 5 ∨ c = 4 ∨ c = 7 ∨ c = 6 ∨ c = 0 ∨ c = 1 ∨ c = 8 := by
 unfold token_scan.f at h
 repeat (first | (split at h; · simp [*]) | exact absurd h (by simp))
theorem ScansAt.below {B g : Nat} {W W' : World} (h : ScansAt B g W) (hb : Below W.heap.size W W') : ScansAt B g W' := by
 obtain ⟨g1, g2, l1, l2, h0, h1, h2⟩ := h
 have f : ∀ {i : Nat} {o : Obj}, W.heap[i]? = some o → W'.heap[i]? = some o := fun {i o} hi => (hb.block i (Array.getElem?_eq_some_iff.1 hi).1).trans hi
 exact ⟨g1, g2, l1, l2, f h0, f h1, f h2⟩
section
variable {P : Program} {ops : Array Oper} {rest : List Oper} {oi : Oper} {a : Act} {w : World} {Q : Exit → Act → World → Prop}
/-- a call of a function's value in a plain region -/
theorem goesV_ (N : Option Tmp) (hd : oi.dst = N) (hg : oi.guard = none) {x : Operand} {xs : Array Operand} {ts : Array TypeId} (f : FuncId) {fn : Func} (hf : P.funcs[f]? = some fn) (hname : (fn.name == "runtime.NumGoroutine") = false) (hb : fn.body.isSome = true) (cap args : Array Value)
  (hop : oi.op = .call { callee := .value x, args := xs, argTypes := ts }) (hx : a.eval x = .func (.func f) #[] cap) (hargs : xs.map a.eval = args)
  (h : Calls P f (args ++ cap) w fun e w' => ∃ v, e = .returned v ∧ wpList P ops Q rest (a.put N v) w') : wpList P ops Q (oi :: rest) a w := by
 refine wpList_plain hg fun K hK => ?_
 have he := enters_ hf hname hb (args ++ cap) w
 have hrun : (execOp a.eval oi).run P w = .ok (.enter f (args ++ cap)) w := by
  unfold execOp
  simp [hop, resolve, Deferred.ofValue, invoke, hx, hargs, he]
 subst hd
 unfold Oper.wp
 rw [hrun, Oper.upon_enter]
 refine h.mono fun e w'' hh => ?_
 obtain ⟨v, rfl, hk⟩ := hh
 exact hK _ _ hk
end
end Go.Proofs.YtflekegjmjjdmaaDoor.P
