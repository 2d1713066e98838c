/- Part of the proof: what the theorem needs of this text. -/
import Derived.Test.YtflekegjmjjdmaaDoorKHG
import Derived.Test.YtflekegjmjjdmaaDoorKHTX
import Derived.Test.YtflekegjmjjdmaaDoorKPx0
import Derived.Test.YtflekegjmjjdmaaDoorKPx1
import Derived.Test.YtflekegjmjjdmaaDoorKPx7
import Derived.Test.YtflekegjmjjdmaaDoorKPx8
namespace Go.Proofs.YtflekegjmjjdmaaDoor.P
open Go.RowKit Go.Proofs.YtflekegjmjjdmaaDoorW.PrintWords Go.Proofs.YtflekegjmjjdmaaDoorW.PrintLast Go.Proofs.YtflekegjmjjdmaaDoorW.PrintMore
attribute [local go_sem] max2_int min2_int max_two min_two max_three min_three max_four min_four   -- for this text's walks alone
set_option linter.unusedVariables false
set_option linter.unusedSimpArgs false
attribute [local go_sem high] eqA27
mutual
def tmesislaw06_TokenStands.j1 : Nat → List Int → Bool → Int → Int → Int → ByteArray → Int → Option (Bool)
 | 0, _, _, _, _, _, _, _ => none
 | k + 1, x6, x96, x339000, x339001, x339002, x339003, x339004 => if x96 = true then (some false) else (if x339000 = 8 then (some (x339003.toList == ([] : List UInt8))) else (if x339000 = 5 then (tmesislaw06_TokenStands.j2 k true) else (if 0 ≤ x339001 then (if x339001 ≤ x339002 then (if x339002 ≤ (x6.length : Int) then (tmesislaw06_TokenStands.j2 k (x339003.toList == (strOfNums ((x6.take (x339002 : Int).toNat).drop (x339001 : Int).toNat)).toList)) else (none)) else (none)) else (none))))
def tmesislaw06_TokenStands.j2 : Nat → Bool → Option (Bool)
 | 0, _ => none
 | k + 1, x4 => some x4
def tmesislaw06_TokenStands.j0 : Nat → Bool → Option (Bool)
 | 0, _ => none
 | k + 1, x4 => some x4
end
def tmesislaw06_TokenStands.f (k : Nat) (l0 : List Int) (a1 : Int) : Option (Bool) := (tmesislaw06_shown.f k).bind fun t328 => ((tmesislaw06_few.f l0).bind fun t329 => (if (wrap64 ((t329.length : Int) + 1)) = 0 then (none) else ((token_Next.f k t329 (Int.tmod (wrap64 (a1)) (wrap64 ((t329.length : Int) + 1)))).bind fun bt332 => (if 0 ≤ (Int.tmod (wrap64 (a1)) (wrap64 ((t329.length : Int) + 1))) then (if (Int.tmod (wrap64 (a1)) (wrap64 ((t329.length : Int) + 1))) ≤ (t329.length : Int) then ((layout_Skip.f k (t329.drop ((Int.tmod (wrap64 (a1)) (wrap64 ((t329.length : Int) + 1))) : Int).toNat)).bind fun bt344 => (if bt332.2.2.2.2.2 = true then (if t328 = true then (if bt332.2.1 = (wrap64 ((Int.tmod (wrap64 (a1)) (wrap64 ((t329.length : Int) + 1))) + bt344.1)) then (if bt332.2.2.1 ≤ bt332.2.1 then (tmesislaw06_TokenStands.j1 k t329 true bt332.1 bt332.2.1 bt332.2.2.1 bt332.2.2.2.1 bt332.2.2.2.2.1) else (if bt332.2.2.1 > (t329.length : Int) then (tmesislaw06_TokenStands.j1 k t329 true bt332.1 bt332.2.1 bt332.2.2.1 bt332.2.2.2.1 bt332.2.2.2.2.1) else (if bt332.1 < 1 then (tmesislaw06_TokenStands.j1 k t329 true bt332.1 bt332.2.1 bt332.2.2.1 bt332.2.2.2.1 bt332.2.2.2.2.1) else (if bt332.1 > 8 then (tmesislaw06_TokenStands.j1 k t329 true bt332.1 bt332.2.1 bt332.2.2.1 bt332.2.2.2.1 bt332.2.2.2.2.1) else (tmesislaw06_TokenStands.j1 k t329 ((bt332.2.2.2.2.1 == 0) == (bt332.1 == 8)) bt332.1 bt332.2.1 bt332.2.2.1 bt332.2.2.2.1 bt332.2.2.2.2.1))))) else (tmesislaw06_TokenStands.j1 k t329 true bt332.1 bt332.2.1 bt332.2.2.1 bt332.2.2.2.1 bt332.2.2.2.2.1)) else (tmesislaw06_TokenStands.j1 k t329 true bt332.1 bt332.2.1 bt332.2.2.1 bt332.2.2.2.1 bt332.2.2.2.2.1)) else (if t328 = true then (if bt344.2 = 0 then (if bt344.1 = (wrap64 ((t329.length : Int) - (Int.tmod (wrap64 (a1)) (wrap64 ((t329.length : Int) + 1))))) then (tmesislaw06_TokenStands.j0 k (bt332.1 == 0 && (bt332.2.1 == 0 && (bt332.2.2.1 == 0 && (bt332.2.2.2.1.toList == ([] : List UInt8) && (bt332.2.2.2.2.1 == 0)))))) else (tmesislaw06_TokenStands.j0 k false)) else (tmesislaw06_TokenStands.j0 k false)) else (tmesislaw06_TokenStands.j0 k false)))) else (none)) else (none)))))
theorem tmesislaw06_TokenStands.mono_l : ∀ k, (∀ y0 y1 y2 y3 y4 y5 y6, LeO (tmesislaw06_TokenStands.j1 k y0 y1 y2 y3 y4 y5 y6) (tmesislaw06_TokenStands.j1 (k + 1) y0 y1 y2 y3 y4 y5 y6)) ∧ (∀ y0, LeO (tmesislaw06_TokenStands.j2 k y0) (tmesislaw06_TokenStands.j2 (k + 1) y0)) ∧ (∀ y0, LeO (tmesislaw06_TokenStands.j0 k y0) (tmesislaw06_TokenStands.j0 (k + 1) y0))
 | 0 => ⟨fun _ _ _ _ _ _ _ r h => by simp [tmesislaw06_TokenStands.j1] at h, fun _ r h => by simp [tmesislaw06_TokenStands.j2] at h, fun _ r h => by simp [tmesislaw06_TokenStands.j0] at h⟩
 | k + 1 => by
  obtain ⟨ih0, ih1, ih2⟩ := tmesislaw06_TokenStands.mono_l k
  refine ⟨?_, ?_, ?_⟩
  ·intro y0 y1 y2 y3 y4 y5 y6
   unfold tmesislaw06_TokenStands.j1
   repeat' first
   | (with_reducible exact ih0 _ _ _ _ _ _ _)
   | (with_reducible exact ih1 _)
   | (with_reducible exact ih2 _)
   | (with_reducible exact layout_Skip.mono _ _)
   | (with_reducible exact tmesislaw06_shown.mono _)
   | (with_reducible exact token_Next.mono _ _ _)
   | (with_reducible exact LeO.refl _)
   | (with_reducible exact LeO.none _)
   | (with_reducible refine LeO.ite ?_ ?_)
   | (with_reducible refine LeO.bind ?_ (fun _ => ?_))
   | exact ih0 _ _ _ _ _ _ _
   | exact ih1 _
   | exact ih2 _
   | exact layout_Skip.mono _ _
   | exact tmesislaw06_shown.mono _
   | exact token_Next.mono _ _ _
   | exact LeO.none _
   | refine LeO.ite ?_ ?_
   | refine LeO.bind ?_ (fun _ => ?_)
  ·intro y0
   unfold tmesislaw06_TokenStands.j2
   repeat' first
   | (with_reducible exact ih0 _ _ _ _ _ _ _)
   | (with_reducible exact ih1 _)
   | (with_reducible exact ih2 _)
   | (with_reducible exact layout_Skip.mono _ _)
   | (with_reducible exact tmesislaw06_shown.mono _)
   | (with_reducible exact token_Next.mono _ _ _)
   | (with_reducible exact LeO.refl _)
   | (with_reducible exact LeO.none _)
   | (with_reducible refine LeO.ite ?_ ?_)
   | (with_reducible refine LeO.bind ?_ (fun _ => ?_))
   | exact ih0 _ _ _ _ _ _ _
   | exact ih1 _
   | exact ih2 _
   | exact layout_Skip.mono _ _
   | exact tmesislaw06_shown.mono _
   | exact token_Next.mono _ _ _
   | exact LeO.none _
   | refine LeO.ite ?_ ?_
   | refine LeO.bind ?_ (fun _ => ?_)
  ·intro y0
   unfold tmesislaw06_TokenStands.j0
   repeat' first
   | (with_reducible exact ih0 _ _ _ _ _ _ _)
   | (with_reducible exact ih1 _)
   | (with_reducible exact ih2 _)
   | (with_reducible exact layout_Skip.mono _ _)
   | (with_reducible exact tmesislaw06_shown.mono _)
   | (with_reducible exact token_Next.mono _ _ _)
   | (with_reducible exact LeO.refl _)
   | (with_reducible exact LeO.none _)
   | (with_reducible refine LeO.ite ?_ ?_)
   | (with_reducible refine LeO.bind ?_ (fun _ => ?_))
   | exact ih0 _ _ _ _ _ _ _
   | exact ih1 _
   | exact ih2 _
   | exact layout_Skip.mono _ _
   | exact tmesislaw06_shown.mono _
   | exact token_Next.mono _ _ _
   | exact LeO.none _
   | refine LeO.ite ?_ ?_
   | refine LeO.bind ?_ (fun _ => ?_)
theorem tmesislaw06_TokenStands.mono : ∀ a0 a1 k, LeO (tmesislaw06_TokenStands.f k a0 a1) (tmesislaw06_TokenStands.f (k + 1) a0 a1) := by
 intro a0 a1 k
 obtain ⟨ih0, ih1, ih2⟩ := tmesislaw06_TokenStands.mono_l k
 unfold tmesislaw06_TokenStands.f
 repeat' first
   | (with_reducible exact ih0 _ _ _ _ _ _ _)
   | (with_reducible exact ih1 _)
   | (with_reducible exact ih2 _)
   | (with_reducible exact layout_Skip.mono _ _)
   | (with_reducible exact tmesislaw06_shown.mono _)
   | (with_reducible exact token_Next.mono _ _ _)
   | (with_reducible exact LeO.refl _)
   | (with_reducible exact LeO.none _)
   | (with_reducible refine LeO.ite ?_ ?_)
   | (with_reducible refine LeO.bind ?_ (fun _ => ?_))
   | exact ih0 _ _ _ _ _ _ _
   | exact ih1 _
   | exact ih2 _
   | exact layout_Skip.mono _ _
   | exact tmesislaw06_shown.mono _
   | exact token_Next.mono _ _ _
   | exact LeO.none _
   | refine LeO.ite ?_ ?_
   | refine LeO.bind ?_ (fun _ => ?_)
set_option maxHeartbeats 8000000 in
set_option maxRecDepth 100000 in
theorem tmesislaw06_TokenStands.calls (k : Nat) (A0 : Option Addr) (c0 : Nat) (l0 : List Int) (a1 : Int) (r : Bool) (w : World) (hG : Gl w) (hr0 : Kd.C (Kd.int .u8) w A0 l0.length l0) (hc0 : l0.length ≤ c0) (h : tmesislaw06_TokenStands.f k l0 a1 = some r) :
  Calls Tryd.prog 4 #[.slice A0 l0.length c0, .int .u8 a1] w fun e w' => e = .returned (.bool r) ∧ Below w.heap.size w w' := by
 have hu27 := Tryd.underlying27
 have HR0 := Aside0.mk hr0
 have HC0 := Aside0.mk hc0
 clear hr0 hc0
 have HB := Aside0.mk (Below.refl w.heap.size w)
 have HG := Aside0.mk hG
 clear hG
 have H : ((tmesislaw06_shown.f k).bind fun t328 => ((tmesislaw06_few.f l0).bind fun t329 => (if (wrap64 ((t329.length : Int) + 1)) = 0 then (none) else ((token_Next.f k t329 (Int.tmod (wrap64 (a1)) (wrap64 ((t329.length : Int) + 1)))).bind fun bt332 => (if 0 ≤ (Int.tmod (wrap64 (a1)) (wrap64 ((t329.length : Int) + 1))) then (if (Int.tmod (wrap64 (a1)) (wrap64 ((t329.length : Int) + 1))) ≤ (t329.length : Int) then ((layout_Skip.f k (t329.drop ((Int.tmod (wrap64 (a1)) (wrap64 ((t329.length : Int) + 1))) : Int).toNat)).bind fun bt344 => (if bt332.2.2.2.2.2 = true then (if t328 = true then (if bt332.2.1 = (wrap64 ((Int.tmod (wrap64 (a1)) (wrap64 ((t329.length : Int) + 1))) + bt344.1)) then (if bt332.2.2.1 ≤ bt332.2.1 then (tmesislaw06_TokenStands.j1 k t329 true bt332.1 bt332.2.1 bt332.2.2.1 bt332.2.2.2.1 bt332.2.2.2.2.1) else (if bt332.2.2.1 > (t329.length : Int) then (tmesislaw06_TokenStands.j1 k t329 true bt332.1 bt332.2.1 bt332.2.2.1 bt332.2.2.2.1 bt332.2.2.2.2.1) else (if bt332.1 < 1 then (tmesislaw06_TokenStands.j1 k t329 true bt332.1 bt332.2.1 bt332.2.2.1 bt332.2.2.2.1 bt332.2.2.2.2.1) else (if bt332.1 > 8 then (tmesislaw06_TokenStands.j1 k t329 true bt332.1 bt332.2.1 bt332.2.2.1 bt332.2.2.2.1 bt332.2.2.2.2.1) else (tmesislaw06_TokenStands.j1 k t329 ((bt332.2.2.2.2.1 == 0) == (bt332.1 == 8)) bt332.1 bt332.2.1 bt332.2.2.1 bt332.2.2.2.1 bt332.2.2.2.2.1))))) else (tmesislaw06_TokenStands.j1 k t329 true bt332.1 bt332.2.1 bt332.2.2.1 bt332.2.2.2.1 bt332.2.2.2.2.1)) else (tmesislaw06_TokenStands.j1 k t329 true bt332.1 bt332.2.1 bt332.2.2.1 bt332.2.2.2.1 bt332.2.2.2.2.1)) else (if t328 = true then (if bt344.2 = 0 then (if bt344.1 = (wrap64 ((t329.length : Int) - (Int.tmod (wrap64 (a1)) (wrap64 ((t329.length : Int) + 1))))) then (tmesislaw06_TokenStands.j0 k (bt332.1 == 0 && (bt332.2.1 == 0 && (bt332.2.2.1 == 0 && (bt332.2.2.2.1.toList == ([] : List UInt8) && (bt332.2.2.2.2.1 == 0)))))) else (tmesislaw06_TokenStands.j0 k false)) else (tmesislaw06_TokenStands.j0 k false)) else (tmesislaw06_TokenStands.j0 k false)))) else (none)) else (none)))))) = some r := h
 clear h
 replace H := Option.bind_eq_some_iff.mp H
 obtain ⟨t328, A30, H⟩ := H
 replace H : ((tmesislaw06_few.f l0).bind fun t329 => (if (wrap64 ((t329.length : Int) + 1)) = 0 then (none) else ((token_Next.f k t329 (Int.tmod (wrap64 (a1)) (wrap64 ((t329.length : Int) + 1)))).bind fun bt332 => (if 0 ≤ (Int.tmod (wrap64 (a1)) (wrap64 ((t329.length : Int) + 1))) then (if (Int.tmod (wrap64 (a1)) (wrap64 ((t329.length : Int) + 1))) ≤ (t329.length : Int) then ((layout_Skip.f k (t329.drop ((Int.tmod (wrap64 (a1)) (wrap64 ((t329.length : Int) + 1))) : Int).toNat)).bind fun bt344 => (if bt332.2.2.2.2.2 = true then (if t328 = true then (if bt332.2.1 = (wrap64 ((Int.tmod (wrap64 (a1)) (wrap64 ((t329.length : Int) + 1))) + bt344.1)) then (if bt332.2.2.1 ≤ bt332.2.1 then (tmesislaw06_TokenStands.j1 k t329 true bt332.1 bt332.2.1 bt332.2.2.1 bt332.2.2.2.1 bt332.2.2.2.2.1) else (if bt332.2.2.1 > (t329.length : Int) then (tmesislaw06_TokenStands.j1 k t329 true bt332.1 bt332.2.1 bt332.2.2.1 bt332.2.2.2.1 bt332.2.2.2.2.1) else (if bt332.1 < 1 then (tmesislaw06_TokenStands.j1 k t329 true bt332.1 bt332.2.1 bt332.2.2.1 bt332.2.2.2.1 bt332.2.2.2.2.1) else (if bt332.1 > 8 then (tmesislaw06_TokenStands.j1 k t329 true bt332.1 bt332.2.1 bt332.2.2.1 bt332.2.2.2.1 bt332.2.2.2.2.1) else (tmesislaw06_TokenStands.j1 k t329 ((bt332.2.2.2.2.1 == 0) == (bt332.1 == 8)) bt332.1 bt332.2.1 bt332.2.2.1 bt332.2.2.2.1 bt332.2.2.2.2.1))))) else (tmesislaw06_TokenStands.j1 k t329 true bt332.1 bt332.2.1 bt332.2.2.1 bt332.2.2.2.1 bt332.2.2.2.2.1)) else (tmesislaw06_TokenStands.j1 k t329 true bt332.1 bt332.2.1 bt332.2.2.1 bt332.2.2.2.1 bt332.2.2.2.2.1)) else (if t328 = true then (if bt344.2 = 0 then (if bt344.1 = (wrap64 ((t329.length : Int) - (Int.tmod (wrap64 (a1)) (wrap64 ((t329.length : Int) + 1))))) then (tmesislaw06_TokenStands.j0 k (bt332.1 == 0 && (bt332.2.1 == 0 && (bt332.2.2.1 == 0 && (bt332.2.2.2.1.toList == ([] : List UInt8) && (bt332.2.2.2.2.1 == 0)))))) else (tmesislaw06_TokenStands.j0 k false)) else (tmesislaw06_TokenStands.j0 k false)) else (tmesislaw06_TokenStands.j0 k false)))) else (none)) else (none))))) = some r := H
 have A3 := Aside0.mk A30
 clear A30
 replace H := Option.bind_eq_some_iff.mp H
 obtain ⟨t329, A40, H⟩ := H
 replace H : (if (wrap64 ((t329.length : Int) + 1)) = 0 then (none) else ((token_Next.f k t329 (Int.tmod (wrap64 (a1)) (wrap64 ((t329.length : Int) + 1)))).bind fun bt332 => (if 0 ≤ (Int.tmod (wrap64 (a1)) (wrap64 ((t329.length : Int) + 1))) then (if (Int.tmod (wrap64 (a1)) (wrap64 ((t329.length : Int) + 1))) ≤ (t329.length : Int) then ((layout_Skip.f k (t329.drop ((Int.tmod (wrap64 (a1)) (wrap64 ((t329.length : Int) + 1))) : Int).toNat)).bind fun bt344 => (if bt332.2.2.2.2.2 = true then (if t328 = true then (if bt332.2.1 = (wrap64 ((Int.tmod (wrap64 (a1)) (wrap64 ((t329.length : Int) + 1))) + bt344.1)) then (if bt332.2.2.1 ≤ bt332.2.1 then (tmesislaw06_TokenStands.j1 k t329 true bt332.1 bt332.2.1 bt332.2.2.1 bt332.2.2.2.1 bt332.2.2.2.2.1) else (if bt332.2.2.1 > (t329.length : Int) then (tmesislaw06_TokenStands.j1 k t329 true bt332.1 bt332.2.1 bt332.2.2.1 bt332.2.2.2.1 bt332.2.2.2.2.1) else (if bt332.1 < 1 then (tmesislaw06_TokenStands.j1 k t329 true bt332.1 bt332.2.1 bt332.2.2.1 bt332.2.2.2.1 bt332.2.2.2.2.1) else (if bt332.1 > 8 then (tmesislaw06_TokenStands.j1 k t329 true bt332.1 bt332.2.1 bt332.2.2.1 bt332.2.2.2.1 bt332.2.2.2.2.1) else (tmesislaw06_TokenStands.j1 k t329 ((bt332.2.2.2.2.1 == 0) == (bt332.1 == 8)) bt332.1 bt332.2.1 bt332.2.2.1 bt332.2.2.2.1 bt332.2.2.2.2.1))))) else (tmesislaw06_TokenStands.j1 k t329 true bt332.1 bt332.2.1 bt332.2.2.1 bt332.2.2.2.1 bt332.2.2.2.2.1)) else (tmesislaw06_TokenStands.j1 k t329 true bt332.1 bt332.2.1 bt332.2.2.1 bt332.2.2.2.1 bt332.2.2.2.2.1)) else (if t328 = true then (if bt344.2 = 0 then (if bt344.1 = (wrap64 ((t329.length : Int) - (Int.tmod (wrap64 (a1)) (wrap64 ((t329.length : Int) + 1))))) then (tmesislaw06_TokenStands.j0 k (bt332.1 == 0 && (bt332.2.1 == 0 && (bt332.2.2.1 == 0 && (bt332.2.2.2.1.toList == ([] : List UInt8) && (bt332.2.2.2.2.1 == 0)))))) else (tmesislaw06_TokenStands.j0 k false)) else (tmesislaw06_TokenStands.j0 k false)) else (tmesislaw06_TokenStands.j0 k false)))) else (none)) else (none)))) = some r := H
 have A4 := Aside0.mk A40
 clear A40
 by_cases c5 : (wrap64 ((t329.length : Int) + 1)) = 0
 ·rw [if_pos c5] at H
  exact absurd H (by simp)
 ·rw [if_neg c5] at H
  have c5b0 : ((wrap64 ((t329.length : Int) + 1)) == 0) = false := beq_eq_false_iff_ne.mpr c5
  have c5b1 : ((wrap64 ((t329.length : Int) + 1)) != 0) = true := bne_iff_ne.mpr c5
  replace H := Option.bind_eq_some_iff.mp H
  obtain ⟨⟨t332, t333, t334, t335, t336, t337⟩, A60, H⟩ := H
  replace H : (if 0 ≤ (Int.tmod (wrap64 (a1)) (wrap64 ((t329.length : Int) + 1))) then (if (Int.tmod (wrap64 (a1)) (wrap64 ((t329.length : Int) + 1))) ≤ (t329.length : Int) then ((layout_Skip.f k (t329.drop ((Int.tmod (wrap64 (a1)) (wrap64 ((t329.length : Int) + 1))) : Int).toNat)).bind fun bt344 => (if t337 = true then (if t328 = true then (if t333 = (wrap64 ((Int.tmod (wrap64 (a1)) (wrap64 ((t329.length : Int) + 1))) + bt344.1)) then (if t334 ≤ t333 then (tmesislaw06_TokenStands.j1 k t329 true t332 t333 t334 t335 t336) else (if t334 > (t329.length : Int) then (tmesislaw06_TokenStands.j1 k t329 true t332 t333 t334 t335 t336) else (if t332 < 1 then (tmesislaw06_TokenStands.j1 k t329 true t332 t333 t334 t335 t336) else (if t332 > 8 then (tmesislaw06_TokenStands.j1 k t329 true t332 t333 t334 t335 t336) else (tmesislaw06_TokenStands.j1 k t329 ((t336 == 0) == (t332 == 8)) t332 t333 t334 t335 t336))))) else (tmesislaw06_TokenStands.j1 k t329 true t332 t333 t334 t335 t336)) else (tmesislaw06_TokenStands.j1 k t329 true t332 t333 t334 t335 t336)) else (if t328 = true then (if bt344.2 = 0 then (if bt344.1 = (wrap64 ((t329.length : Int) - (Int.tmod (wrap64 (a1)) (wrap64 ((t329.length : Int) + 1))))) then (tmesislaw06_TokenStands.j0 k (t332 == 0 && (t333 == 0 && (t334 == 0 && (t335.toList == ([] : List UInt8) && (t336 == 0)))))) else (tmesislaw06_TokenStands.j0 k false)) else (tmesislaw06_TokenStands.j0 k false)) else (tmesislaw06_TokenStands.j0 k false)))) else (none)) else (none)) = some r := H
  have A6 := Aside0.mk A60
  clear A60
  obtain ⟨ji7, hji7⟩ : ∃ j_ : Int, (Int.tmod (wrap64 (a1)) (wrap64 ((t329.length : Int) + 1))) = j_ := ⟨_, rfl⟩
  replace H : (if 0 ≤ (ji7) then (if (ji7) ≤ (t329.length : Int) then ((layout_Skip.f k (t329.drop ((ji7) : Int).toNat)).bind fun bt344 => (if t337 = true then (if t328 = true then (if t333 = (wrap64 ((ji7) + bt344.1)) then (if t334 ≤ t333 then (tmesislaw06_TokenStands.j1 k t329 true t332 t333 t334 t335 t336) else (if t334 > (t329.length : Int) then (tmesislaw06_TokenStands.j1 k t329 true t332 t333 t334 t335 t336) else (if t332 < 1 then (tmesislaw06_TokenStands.j1 k t329 true t332 t333 t334 t335 t336) else (if t332 > 8 then (tmesislaw06_TokenStands.j1 k t329 true t332 t333 t334 t335 t336) else (tmesislaw06_TokenStands.j1 k t329 ((t336 == 0) == (t332 == 8)) t332 t333 t334 t335 t336))))) else (tmesislaw06_TokenStands.j1 k t329 true t332 t333 t334 t335 t336)) else (tmesislaw06_TokenStands.j1 k t329 true t332 t333 t334 t335 t336)) else (if t328 = true then (if bt344.2 = 0 then (if bt344.1 = (wrap64 ((t329.length : Int) - (ji7))) then (tmesislaw06_TokenStands.j0 k (t332 == 0 && (t333 == 0 && (t334 == 0 && (t335.toList == ([] : List UInt8) && (t336 == 0)))))) else (tmesislaw06_TokenStands.j0 k false)) else (tmesislaw06_TokenStands.j0 k false)) else (tmesislaw06_TokenStands.j0 k false)))) else (none)) else (none)) = some r := by first | (rw [hji7] at H; exact H) | (simp only [hji7] at H ⊢; exact H)
  (try rw [hji7] at A3)
  (try rw [hji7] at A4)
  (try rw [hji7] at A6)
  by_cases c8 : 0 ≤ (ji7)
  ·rw [if_pos c8] at H
   have c8b0 := eq_true c8
   have c8b1 : decide (0 ≤ (ji7)) = true := decide_eq_true c8
   clear c8
   by_cases c9 : (ji7) ≤ (t329.length : Int)
   ·rw [if_pos c9] at H
    have c9b0 := eq_true c9
    have c9b1 : decide ((ji7) ≤ (t329.length : Int)) = true := decide_eq_true c9
    clear c9
    obtain ⟨y339, hy339⟩ : ∃ y_ : List Int, y_ = (t329.drop ((ji7) : Int).toNat) := ⟨_, rfl⟩
    replace H : ((layout_Skip.f k y339).bind fun bt344 => (if t337 = true then (if t328 = true then (if t333 = (wrap64 ((ji7) + bt344.1)) then (if t334 ≤ t333 then (tmesislaw06_TokenStands.j1 k t329 true t332 t333 t334 t335 t336) else (if t334 > (t329.length : Int) then (tmesislaw06_TokenStands.j1 k t329 true t332 t333 t334 t335 t336) else (if t332 < 1 then (tmesislaw06_TokenStands.j1 k t329 true t332 t333 t334 t335 t336) else (if t332 > 8 then (tmesislaw06_TokenStands.j1 k t329 true t332 t333 t334 t335 t336) else (tmesislaw06_TokenStands.j1 k t329 ((t336 == 0) == (t332 == 8)) t332 t333 t334 t335 t336))))) else (tmesislaw06_TokenStands.j1 k t329 true t332 t333 t334 t335 t336)) else (tmesislaw06_TokenStands.j1 k t329 true t332 t333 t334 t335 t336)) else (if t328 = true then (if bt344.2 = 0 then (if bt344.1 = (wrap64 ((t329.length : Int) - (ji7))) then (tmesislaw06_TokenStands.j0 k (t332 == 0 && (t333 == 0 && (t334 == 0 && (t335.toList == ([] : List UInt8) && (t336 == 0)))))) else (tmesislaw06_TokenStands.j0 k false)) else (tmesislaw06_TokenStands.j0 k false)) else (tmesislaw06_TokenStands.j0 k false)))) = some r := by first | (rw [hy339]; with_reducible exact H) | (have H2_ := (Option.bind_some _ _).symm.trans H; rw [hy339]; with_reducible exact H2_) | (have H2_ := (Option.bind_some _ _).symm.trans H; with_reducible exact H2_) | with_reducible exact H | (rw [hy339]; exact H) | exact H
    have Ny339 := Aside0.mk hy339
    clear hy339
    replace H := Option.bind_eq_some_iff.mp H
    obtain ⟨⟨t344, t345⟩, A100, H⟩ := H
    replace H : (if t337 = true then (if t328 = true then (if t333 = (wrap64 ((ji7) + t344)) then (if t334 ≤ t333 then (tmesislaw06_TokenStands.j1 k t329 true t332 t333 t334 t335 t336) else (if t334 > (t329.length : Int) then (tmesislaw06_TokenStands.j1 k t329 true t332 t333 t334 t335 t336) else (if t332 < 1 then (tmesislaw06_TokenStands.j1 k t329 true t332 t333 t334 t335 t336) else (if t332 > 8 then (tmesislaw06_TokenStands.j1 k t329 true t332 t333 t334 t335 t336) else (tmesislaw06_TokenStands.j1 k t329 ((t336 == 0) == (t332 == 8)) t332 t333 t334 t335 t336))))) else (tmesislaw06_TokenStands.j1 k t329 true t332 t333 t334 t335 t336)) else (tmesislaw06_TokenStands.j1 k t329 true t332 t333 t334 t335 t336)) else (if t328 = true then (if t345 = 0 then (if t344 = (wrap64 ((t329.length : Int) - (ji7))) then (tmesislaw06_TokenStands.j0 k (t332 == 0 && (t333 == 0 && (t334 == 0 && (t335.toList == ([] : List UInt8) && (t336 == 0)))))) else (tmesislaw06_TokenStands.j0 k false)) else (tmesislaw06_TokenStands.j0 k false)) else (tmesislaw06_TokenStands.j0 k false))) = some r := H
    have A10 := Aside0.mk A100
    clear A100
    by_cases c11 : t337 = true
    ·subst c11
     have H1 : (if t328 = true then (if t333 = (wrap64 ((ji7) + t344)) then (if t334 ≤ t333 then (tmesislaw06_TokenStands.j1 k t329 true t332 t333 t334 t335 t336) else (if t334 > (t329.length : Int) then (tmesislaw06_TokenStands.j1 k t329 true t332 t333 t334 t335 t336) else (if t332 < 1 then (tmesislaw06_TokenStands.j1 k t329 true t332 t333 t334 t335 t336) else (if t332 > 8 then (tmesislaw06_TokenStands.j1 k t329 true t332 t333 t334 t335 t336) else (tmesislaw06_TokenStands.j1 k t329 ((t336 == 0) == (t332 == 8)) t332 t333 t334 t335 t336))))) else (tmesislaw06_TokenStands.j1 k t329 true t332 t333 t334 t335 t336)) else (tmesislaw06_TokenStands.j1 k t329 true t332 t333 t334 t335 t336)) = some r := by rw [if_pos rfl] at H; exact H
     clear H
     have H := H1
     clear H1
     have HC12 := Aside0.mk H
     clear H
     go_enter Tryd.func4, Tryd.ntmps4
     go_upto_region 8 with (first | (go_at_call 9; (with_reducible refine (tmesislaw06_shown.calls k  t328 _ ?side1 A3.out).mono ?_); (case side1 => exact Gl.below HG.out (by repeat (first | (with_reducible first | exact HB.out | apply below_alloc | apply pw_below_drewN | apply below_drew1) | exact HB.out))); rintro e w13 ⟨rfl, hb⟩; have n0_ := Aside0.mk (below_step (by repeat (first | (with_reducible first | exact HB.out | apply below_alloc | apply pw_below_drewN | apply below_drew1) | exact HB.out)) hb); clear HB; have HB := n0_; clear n0_; (try clear hb); (try clear hb2); (try clear hk); (try clear hi)) | (go_at_call 10; (with_reducible refine (tmesislaw06_few.calls (fun k_ => k_ < w.heap.size) _ _ l0 t329 _ ?side1 A4.out).mono ?_); (case side1 => exact Kd.V_mk HC0.out (Kd.F_below (Kd.C_F (Kd.heap_int .u8) HR0.out) (by repeat (first | (with_reducible first | exact HB.out | apply below_alloc | apply pw_below_drewN | apply below_drew1) | exact HB.out)))); rintro e w14 ⟨v330, rfl, ho0, hb⟩; have n0_ := Aside0.mk (Kd.V_lower (Kd.V_mono (ok' := fun k_ => True) ho0 (fun k_ hk_ => trivial)) (below_size (by repeat (first | (with_reducible first | exact HB.out | apply below_alloc | apply pw_below_drewN | apply below_drew1) | exact HB.out)))); have n1_ := Aside0.mk (below_step (by repeat (first | (with_reducible first | exact HB.out | apply below_alloc | apply pw_below_drewN | apply below_drew1) | exact HB.out)) hb); clear HB; have HO331 := n0_; have HB := n1_; clear n0_ n1_; (try clear hb); (try clear hb2); (try clear hk); (try clear hi); (try clear ho0); obtain ⟨Ao15, co15, eo15⟩ := Kd.V_slice HO331.out; subst eo15) | (go_at_call 11; (with_reducible refine (token_Next.calls k _ _ t329 ji7 t332 t333 t334 t335 t336 true _ ?side1 ?side2 ?side3 A6.out).mono ?_); (case side1 => exact Gl.below HG.out (by repeat (first | (with_reducible first | exact HB.out | apply below_alloc | apply pw_below_drewN | apply below_drew1) | exact HB.out))); (case side2 => repeat (first | exact (Kd.V_reads' HO331.out).2.2 | (with_reducible refine Kd.C_alloc ?_ _) | (with_reducible refine Kd.C_drewN ?_ _) | (with_reducible refine Kd.C_drew ?_))); (case side3 => exact (Kd.V_reads' HO331.out).2.1); rintro e w16 ⟨rfl, hb⟩; have n0_ := Aside0.mk (Kd.V_below (by (with_reducible repeat (first | apply Kd.V_alloc | apply Kd.V_drewN | apply Kd.V_drew)); exact HO331.out) hb); have n1_ := Aside0.mk (below_step (by repeat (first | (with_reducible first | exact HB.out | apply below_alloc | apply pw_below_drewN | apply below_drew1) | exact HB.out)) hb); clear HO331; clear HB; have HO331 := n0_; have HB := n1_; clear n0_ n1_; (try clear hb); (try clear hb2); (try clear hk); (try clear hi)) | ((with_reducible refine gate_dst (N := 8) rfl ?_); (try (refine gate_guard (by rfl) ?_; dsimp only)); refine box_event ?hg (N := 8) ?hd (cs := #[.int .i64 0, .int .i64 0, .int .i64 0, .string (⟨#[]⟩ : ByteArray), .int .i64 0]) (t := 27) ?hr ?_; (case hd => rfl); (case hg => rfl); (case hr => first | (go_simp; done) | (go_simp; rfl)); intro gb338 hg w17 hbox hb; have n0_ := Aside0.mk (Kd.V_below (Kd.V_elderB (by (with_reducible repeat (first | apply Kd.V_alloc | apply Kd.V_drewN | apply Kd.V_drew)); exact HO331.out) gb338 (Nat.le_of_eq hg.symm)) hb); have n1_ := Aside0.mk (below_step (by repeat (first | (with_reducible first | exact HB.out | apply below_alloc | apply pw_below_drewN | apply below_drew1) | exact HB.out)) hb); have n2_ := Aside0.mk (hbox); have n3_ := Aside0.mk ((by rw [hg]; exact (below_size (by repeat (first | (with_reducible first | exact HB.out | apply below_alloc | apply pw_below_drewN | apply below_drew1) | exact HB.out))) : w.heap.size ≤ gb338)); have n4_ := Aside0.mk ((by rw [hg]; exact (below_size (by repeat (first | (with_reducible first | exact HB.out | apply below_alloc | apply pw_below_drewN | apply below_drew1) | exact HB.out))) : w.heap.size ≤ gb338)); clear HO331; clear HB; have HO331 := n0_; have HB := n1_; have BK338 := n2_; have GW338 := n3_; have GE338 := n4_; clear n0_ n1_ n2_ n3_ n4_; clear hb hbox hg; have hcz18_0 : w17.cell? ⟨gb338, 0, none⟩ = some (.int .i64 0) := (blk_cell BK338.out 0).trans rfl; have hcz18_1 : w17.cell? ⟨gb338, 1, none⟩ = some (.int .i64 0) := (blk_cell BK338.out 1).trans rfl; have hcz18_2 : w17.cell? ⟨gb338, 2, none⟩ = some (.int .i64 0) := (blk_cell BK338.out 2).trans rfl; have hcz18_3 : w17.cell? ⟨gb338, 3, none⟩ = some (.string (⟨#[]⟩ : ByteArray)) := (blk_cell BK338.out 3).trans rfl; have hcz18_4 : w17.cell? ⟨gb338, 4, none⟩ = some (.int .i64 0) := (blk_cell BK338.out 4).trans rfl; have hfz18_0 := blk_frozen BK338.out 0; have hfz18_1 := blk_frozen BK338.out 1; have hfz18_2 := blk_frozen BK338.out 2; have hfz18_3 := blk_frozen BK338.out 3; have hfz18_4 := blk_frozen BK338.out 4) | ((with_reducible refine gate_store (t := 27) (p := 8) rfl ?_); (try (rw [drewN_self w17]; generalize hq_ : World.drewN w17 _ = w17; have n0_ := Aside0.mk (Kd.V_at hq_ HO331.out); have n1_ := Aside0.mk (blk_at hq_ BK338.out); have n2_ := Aside0.mk (below_at hq_ HB.out); clear hq_ HO331 BK338 HB; have HO331 := n0_; have BK338 := n1_; have HB := n2_; clear n0_ n1_ n2_)); refine store_event (t := 27) (p := 8) (v := ?vo_w19) (w1 := (((((w17.setCell ⟨gb338, 0, none⟩ (.int .i64 t332)).setCell ⟨gb338, 1, none⟩ (.int .i64 t333)).setCell ⟨gb338, 2, none⟩ (.int .i64 t334)).setCell ⟨gb338, 3, none⟩ (.string t335)).setCell ⟨gb338, 4, none⟩ (.int .i64 t336))) ?hg ?ho ?hn ?hr ?_; (case ho => rfl); (case hg => rfl); (case hn => rfl); (case hr => first | (go_simp; done) | (go_simp; rfl)); intro w19 hw; have n0_ : Aside0 (Kd.V (Kd.int .u8) 5 w19 w.heap.size (fun k_ => k_ ≠ gb338) (.slice Ao15 t329.length co15) t329) := ⟨(by rw [hw]; exact (by (with_reducible repeat (first | apply Kd.V_alloc | apply Kd.V_drewN | apply Kd.V_drew)); exact Kd.V_mono (Kd.V_far (p := ⟨gb338, 4, none⟩) (Kd.V_far (p := ⟨gb338, 3, none⟩) (Kd.V_far (p := ⟨gb338, 2, none⟩) (Kd.V_far (p := ⟨gb338, 1, none⟩) (Kd.V_far (p := ⟨gb338, 0, none⟩) (Kd.V_mono HO331.out (fun k_ hk => (⟨hk, hk.2⟩ : _ ∧ k_ ≠ gb338))) (fun _ hk => hk.2) (.int .i64 t332)) (fun _ hk => hk.2) (.int .i64 t333)) (fun _ hk => hk.2) (.int .i64 t334)) (fun _ hk => hk.2) (.string t335)) (fun _ hk => hk.2) (.int .i64 t336)) (fun _ hk => hk.1.2)))⟩; have n1_ : Aside0 (w19.heap[gb338]? = some (.cells #[.int .i64 t332, .int .i64 t333, .int .i64 t334, .string t335, .int .i64 t336] 27 (0, 0))) := ⟨(by rw [hw]; exact (by (with_reducible repeat (first | refine blk_drewN ?_ _ | refine blk_drew ?_ | refine blk_alloc ?_ _)); refine blk_put (cs := #[.int .i64 t332, .int .i64 t333, .int .i64 t334, .string t335, .int .i64 0]) ?_ 4 _ rfl; (with_reducible repeat (first | refine blk_drewN ?_ _ | refine blk_drew ?_ | refine blk_alloc ?_ _)); refine blk_put (cs := #[.int .i64 t332, .int .i64 t333, .int .i64 t334, .string (⟨#[]⟩ : ByteArray), .int .i64 0]) ?_ 3 _ rfl; (with_reducible repeat (first | refine blk_drewN ?_ _ | refine blk_drew ?_ | refine blk_alloc ?_ _)); refine blk_put (cs := #[.int .i64 t332, .int .i64 t333, .int .i64 0, .string (⟨#[]⟩ : ByteArray), .int .i64 0]) ?_ 2 _ rfl; (with_reducible repeat (first | refine blk_drewN ?_ _ | refine blk_drew ?_ | refine blk_alloc ?_ _)); refine blk_put (cs := #[.int .i64 t332, .int .i64 0, .int .i64 0, .string (⟨#[]⟩ : ByteArray), .int .i64 0]) ?_ 1 _ rfl; (with_reducible repeat (first | refine blk_drewN ?_ _ | refine blk_drew ?_ | refine blk_alloc ?_ _)); refine blk_put (cs := #[.int .i64 0, .int .i64 0, .int .i64 0, .string (⟨#[]⟩ : ByteArray), .int .i64 0]) ?_ 0 _ rfl; (with_reducible repeat (first | refine blk_drewN ?_ _ | refine blk_drew ?_ | refine blk_alloc ?_ _)); exact BK338.out))⟩; have n2_ : Aside0 (Below w.heap.size w w19) := ⟨(by rw [hw]; exact (by repeat (first | (with_reducible first | exact HB.out | apply below_alloc | apply pw_below_drewN | apply below_drew1 | refine below_set ?_ GE338.out) | exact HB.out)))⟩; clear hw; clear HO331; clear BK338; clear HB; have HO331 := n0_; have BK338 := n1_; have HB := n2_; clear n0_ n1_ n2_; have q20 : ((ji7) : Int) ≤ ((t329.length : Int) : Int) := of_decide_eq_true (by first | (with_reducible assumption) | assumption); obtain ⟨i020, hi020, _, hsz20, _⟩ := info_parts info5; have hroom20 : t329.length ≤ co15 := (Kd.V_reads' HO331.out).2.1; have hC20 : Kd.F (Kd.int .u8) _ _ Ao15 t329.length t329 := (Kd.V_at (base := w.heap.size) HO331.out).2.2; have q020 : (0 : Int) ≤ ((ji7) : Int) := of_decide_eq_true (by first | (with_reducible assumption) | assumption); have hcut20 := cut_from (P := Tryd.prog) 22 5 .i64 Tryd.underlying22 hi020 1 hsz20 Ao15 t329.length co15 (ji7) q020 q20; have hr20 := Kd.F_cut (m := ((ji7) : Int).toNat) (c := co15) hC20 (by omega) hroom20; obtain ⟨A20, hA20⟩ : ∃ A1, A1 = (if co15 = ((ji7) : Int).toNat then Ao15 else (Ao15 : Option Addr).map (·.add (((ji7) : Int).toNat * 1))) := ⟨_, rfl⟩; obtain ⟨c20, hc20⟩ : ∃ c1, c1 = co15 - ((ji7) : Int).toNat := ⟨_, rfl⟩; have hy20 : y339.length = t329.length - ((ji7) : Int).toNat := (by rw [Ny339.out, List.length_drop] <;> omega); rw [show (t329).drop ((ji7) : Int).toNat = y339 from Ny339.out.symm] at hr20; replace hr20 : Kd.F (Kd.int .u8) _ _ A20 y339.length y339 := (by rw [hA20]; exact hr20); rw [← hy20, ← hA20, ← hc20] at hcut20; have HO343 := Aside0.mk (show Kd.V (Kd.int .u8) 5 _ w.heap.size _ (.slice A20 y339.length c20) y339 from Kd.V_mk (by rw [hy20, hc20]; exact Nat.sub_le_sub_right hroom20 _) hr20); have HC343 := Aside0.mk (show y339.length ≤ c20 from by rw [hy20, hc20]; exact Nat.sub_le_sub_right hroom20 _); clear hr20 hC20 hroom20 hi020 hsz20 hc20; have KY20 := Aside0.mk hy20; have KA20 := Aside0.mk hA20; clear hy20 hA20; replace q20 := eq_true q20) | (go_at_call 13; (with_reducible refine (layout_Skip.calls k _ _ y339 t344 t345 _ ?side1 ?side2 ?side3 A10.out).mono ?_); (case side1 => exact Gl.below HG.out (by repeat (first | (with_reducible first | exact HB.out | apply below_alloc | apply pw_below_drewN | apply below_drew1 | refine below_set ?_ GE338.out) | exact HB.out))); (case side2 => repeat (first | exact (Kd.V_reads' HO343.out).2.2 | (with_reducible refine Kd.C_alloc ?_ _) | (with_reducible refine Kd.C_drewN ?_ _) | (with_reducible refine Kd.C_drew ?_))); (case side3 => exact (Kd.V_reads' HO343.out).2.1); rintro e w21 ⟨rfl, hb⟩; have n0_ := Aside0.mk (Kd.V_below (by (with_reducible repeat (first | apply Kd.V_alloc | apply Kd.V_drewN | apply Kd.V_drew)); exact HO331.out) hb); have n1_ := Aside0.mk (Kd.V_below (by (with_reducible repeat (first | apply Kd.V_alloc | apply Kd.V_drewN | apply Kd.V_drew)); exact HO343.out) hb); have n2_ := Aside0.mk (blk_below (g := gb338) (o := .cells #[.int .i64 t332, .int .i64 t333, .int .i64 t334, .string t335, .int .i64 t336] 27 (0, 0)) (by (with_reducible repeat (first | refine blk_drewN ?_ _ | refine blk_drew ?_ | refine blk_alloc ?_ _)); exact BK338.out) hb); have n3_ := Aside0.mk (below_step (by repeat (first | (with_reducible first | exact HB.out | apply below_alloc | apply pw_below_drewN | apply below_drew1 | refine below_set ?_ GE338.out) | exact HB.out)) hb); clear HO331; clear HO343; clear BK338; clear HB; have HO331 := n0_; have HO343 := n1_; have BK338 := n2_; have HB := n3_; clear n0_ n1_ n2_ n3_; (try clear hb); (try clear hb2); (try clear hk); (try clear hi)))
     repeat (go_quiet (first | (go_at_call 9; (with_reducible refine (tmesislaw06_shown.calls k  t328 _ ?side1 A3.out).mono ?_); (case side1 => exact Gl.below HG.out (by repeat (first | (with_reducible first | exact HB.out | apply below_alloc | apply pw_below_drewN | apply below_drew1) | exact HB.out))); rintro e w13 ⟨rfl, hb⟩; have n0_ := Aside0.mk (below_step (by repeat (first | (with_reducible first | exact HB.out | apply below_alloc | apply pw_below_drewN | apply below_drew1) | exact HB.out)) hb); clear HB; have HB := n0_; clear n0_; (try clear hb); (try clear hb2); (try clear hk); (try clear hi)) | (go_at_call 10; (with_reducible refine (tmesislaw06_few.calls (fun k_ => k_ < w.heap.size) _ _ l0 t329 _ ?side1 A4.out).mono ?_); (case side1 => exact Kd.V_mk HC0.out (Kd.F_below (Kd.C_F (Kd.heap_int .u8) HR0.out) (by repeat (first | (with_reducible first | exact HB.out | apply below_alloc | apply pw_below_drewN | apply below_drew1) | exact HB.out)))); rintro e w14 ⟨v330, rfl, ho0, hb⟩; have n0_ := Aside0.mk (Kd.V_lower (Kd.V_mono (ok' := fun k_ => True) ho0 (fun k_ hk_ => trivial)) (below_size (by repeat (first | (with_reducible first | exact HB.out | apply below_alloc | apply pw_below_drewN | apply below_drew1) | exact HB.out)))); have n1_ := Aside0.mk (below_step (by repeat (first | (with_reducible first | exact HB.out | apply below_alloc | apply pw_below_drewN | apply below_drew1) | exact HB.out)) hb); clear HB; have HO331 := n0_; have HB := n1_; clear n0_ n1_; (try clear hb); (try clear hb2); (try clear hk); (try clear hi); (try clear ho0); obtain ⟨Ao15, co15, eo15⟩ := Kd.V_slice HO331.out; subst eo15) | (go_at_call 11; (with_reducible refine (token_Next.calls k _ _ t329 ji7 t332 t333 t334 t335 t336 true _ ?side1 ?side2 ?side3 A6.out).mono ?_); (case side1 => exact Gl.below HG.out (by repeat (first | (with_reducible first | exact HB.out | apply below_alloc | apply pw_below_drewN | apply below_drew1) | exact HB.out))); (case side2 => repeat (first | exact (Kd.V_reads' HO331.out).2.2 | (with_reducible refine Kd.C_alloc ?_ _) | (with_reducible refine Kd.C_drewN ?_ _) | (with_reducible refine Kd.C_drew ?_))); (case side3 => exact (Kd.V_reads' HO331.out).2.1); rintro e w16 ⟨rfl, hb⟩; have n0_ := Aside0.mk (Kd.V_below (by (with_reducible repeat (first | apply Kd.V_alloc | apply Kd.V_drewN | apply Kd.V_drew)); exact HO331.out) hb); have n1_ := Aside0.mk (below_step (by repeat (first | (with_reducible first | exact HB.out | apply below_alloc | apply pw_below_drewN | apply below_drew1) | exact HB.out)) hb); clear HO331; clear HB; have HO331 := n0_; have HB := n1_; clear n0_ n1_; (try clear hb); (try clear hb2); (try clear hk); (try clear hi)) | ((with_reducible refine gate_dst (N := 8) rfl ?_); (try (refine gate_guard (by rfl) ?_; dsimp only)); refine box_event ?hg (N := 8) ?hd (cs := #[.int .i64 0, .int .i64 0, .int .i64 0, .string (⟨#[]⟩ : ByteArray), .int .i64 0]) (t := 27) ?hr ?_; (case hd => rfl); (case hg => rfl); (case hr => first | (go_simp; done) | (go_simp; rfl)); intro gb338 hg w17 hbox hb; have n0_ := Aside0.mk (Kd.V_below (Kd.V_elderB (by (with_reducible repeat (first | apply Kd.V_alloc | apply Kd.V_drewN | apply Kd.V_drew)); exact HO331.out) gb338 (Nat.le_of_eq hg.symm)) hb); have n1_ := Aside0.mk (below_step (by repeat (first | (with_reducible first | exact HB.out | apply below_alloc | apply pw_below_drewN | apply below_drew1) | exact HB.out)) hb); have n2_ := Aside0.mk (hbox); have n3_ := Aside0.mk ((by rw [hg]; exact (below_size (by repeat (first | (with_reducible first | exact HB.out | apply below_alloc | apply pw_below_drewN | apply below_drew1) | exact HB.out))) : w.heap.size ≤ gb338)); have n4_ := Aside0.mk ((by rw [hg]; exact (below_size (by repeat (first | (with_reducible first | exact HB.out | apply below_alloc | apply pw_below_drewN | apply below_drew1) | exact HB.out))) : w.heap.size ≤ gb338)); clear HO331; clear HB; have HO331 := n0_; have HB := n1_; have BK338 := n2_; have GW338 := n3_; have GE338 := n4_; clear n0_ n1_ n2_ n3_ n4_; clear hb hbox hg; have hcz18_0 : w17.cell? ⟨gb338, 0, none⟩ = some (.int .i64 0) := (blk_cell BK338.out 0).trans rfl; have hcz18_1 : w17.cell? ⟨gb338, 1, none⟩ = some (.int .i64 0) := (blk_cell BK338.out 1).trans rfl; have hcz18_2 : w17.cell? ⟨gb338, 2, none⟩ = some (.int .i64 0) := (blk_cell BK338.out 2).trans rfl; have hcz18_3 : w17.cell? ⟨gb338, 3, none⟩ = some (.string (⟨#[]⟩ : ByteArray)) := (blk_cell BK338.out 3).trans rfl; have hcz18_4 : w17.cell? ⟨gb338, 4, none⟩ = some (.int .i64 0) := (blk_cell BK338.out 4).trans rfl; have hfz18_0 := blk_frozen BK338.out 0; have hfz18_1 := blk_frozen BK338.out 1; have hfz18_2 := blk_frozen BK338.out 2; have hfz18_3 := blk_frozen BK338.out 3; have hfz18_4 := blk_frozen BK338.out 4) | ((with_reducible refine gate_store (t := 27) (p := 8) rfl ?_); (try (rw [drewN_self w17]; generalize hq_ : World.drewN w17 _ = w17; have n0_ := Aside0.mk (Kd.V_at hq_ HO331.out); have n1_ := Aside0.mk (blk_at hq_ BK338.out); have n2_ := Aside0.mk (below_at hq_ HB.out); clear hq_ HO331 BK338 HB; have HO331 := n0_; have BK338 := n1_; have HB := n2_; clear n0_ n1_ n2_)); refine store_event (t := 27) (p := 8) (v := ?vo_w19) (w1 := (((((w17.setCell ⟨gb338, 0, none⟩ (.int .i64 t332)).setCell ⟨gb338, 1, none⟩ (.int .i64 t333)).setCell ⟨gb338, 2, none⟩ (.int .i64 t334)).setCell ⟨gb338, 3, none⟩ (.string t335)).setCell ⟨gb338, 4, none⟩ (.int .i64 t336))) ?hg ?ho ?hn ?hr ?_; (case ho => rfl); (case hg => rfl); (case hn => rfl); (case hr => first | (go_simp; done) | (go_simp; rfl)); intro w19 hw; have n0_ : Aside0 (Kd.V (Kd.int .u8) 5 w19 w.heap.size (fun k_ => k_ ≠ gb338) (.slice Ao15 t329.length co15) t329) := ⟨(by rw [hw]; exact (by (with_reducible repeat (first | apply Kd.V_alloc | apply Kd.V_drewN | apply Kd.V_drew)); exact Kd.V_mono (Kd.V_far (p := ⟨gb338, 4, none⟩) (Kd.V_far (p := ⟨gb338, 3, none⟩) (Kd.V_far (p := ⟨gb338, 2, none⟩) (Kd.V_far (p := ⟨gb338, 1, none⟩) (Kd.V_far (p := ⟨gb338, 0, none⟩) (Kd.V_mono HO331.out (fun k_ hk => (⟨hk, hk.2⟩ : _ ∧ k_ ≠ gb338))) (fun _ hk => hk.2) (.int .i64 t332)) (fun _ hk => hk.2) (.int .i64 t333)) (fun _ hk => hk.2) (.int .i64 t334)) (fun _ hk => hk.2) (.string t335)) (fun _ hk => hk.2) (.int .i64 t336)) (fun _ hk => hk.1.2)))⟩; have n1_ : Aside0 (w19.heap[gb338]? = some (.cells #[.int .i64 t332, .int .i64 t333, .int .i64 t334, .string t335, .int .i64 t336] 27 (0, 0))) := ⟨(by rw [hw]; exact (by (with_reducible repeat (first | refine blk_drewN ?_ _ | refine blk_drew ?_ | refine blk_alloc ?_ _)); refine blk_put (cs := #[.int .i64 t332, .int .i64 t333, .int .i64 t334, .string t335, .int .i64 0]) ?_ 4 _ rfl; (with_reducible repeat (first | refine blk_drewN ?_ _ | refine blk_drew ?_ | refine blk_alloc ?_ _)); refine blk_put (cs := #[.int .i64 t332, .int .i64 t333, .int .i64 t334, .string (⟨#[]⟩ : ByteArray), .int .i64 0]) ?_ 3 _ rfl; (with_reducible repeat (first | refine blk_drewN ?_ _ | refine blk_drew ?_ | refine blk_alloc ?_ _)); refine blk_put (cs := #[.int .i64 t332, .int .i64 t333, .int .i64 0, .string (⟨#[]⟩ : ByteArray), .int .i64 0]) ?_ 2 _ rfl; (with_reducible repeat (first | refine blk_drewN ?_ _ | refine blk_drew ?_ | refine blk_alloc ?_ _)); refine blk_put (cs := #[.int .i64 t332, .int .i64 0, .int .i64 0, .string (⟨#[]⟩ : ByteArray), .int .i64 0]) ?_ 1 _ rfl; (with_reducible repeat (first | refine blk_drewN ?_ _ | refine blk_drew ?_ | refine blk_alloc ?_ _)); refine blk_put (cs := #[.int .i64 0, .int .i64 0, .int .i64 0, .string (⟨#[]⟩ : ByteArray), .int .i64 0]) ?_ 0 _ rfl; (with_reducible repeat (first | refine blk_drewN ?_ _ | refine blk_drew ?_ | refine blk_alloc ?_ _)); exact BK338.out))⟩; have n2_ : Aside0 (Below w.heap.size w w19) := ⟨(by rw [hw]; exact (by repeat (first | (with_reducible first | exact HB.out | apply below_alloc | apply pw_below_drewN | apply below_drew1 | refine below_set ?_ GE338.out) | exact HB.out)))⟩; clear hw; clear HO331; clear BK338; clear HB; have HO331 := n0_; have BK338 := n1_; have HB := n2_; clear n0_ n1_ n2_; have q20 : ((ji7) : Int) ≤ ((t329.length : Int) : Int) := of_decide_eq_true (by first | (with_reducible assumption) | assumption); obtain ⟨i020, hi020, _, hsz20, _⟩ := info_parts info5; have hroom20 : t329.length ≤ co15 := (Kd.V_reads' HO331.out).2.1; have hC20 : Kd.F (Kd.int .u8) _ _ Ao15 t329.length t329 := (Kd.V_at (base := w.heap.size) HO331.out).2.2; have q020 : (0 : Int) ≤ ((ji7) : Int) := of_decide_eq_true (by first | (with_reducible assumption) | assumption); have hcut20 := cut_from (P := Tryd.prog) 22 5 .i64 Tryd.underlying22 hi020 1 hsz20 Ao15 t329.length co15 (ji7) q020 q20; have hr20 := Kd.F_cut (m := ((ji7) : Int).toNat) (c := co15) hC20 (by omega) hroom20; obtain ⟨A20, hA20⟩ : ∃ A1, A1 = (if co15 = ((ji7) : Int).toNat then Ao15 else (Ao15 : Option Addr).map (·.add (((ji7) : Int).toNat * 1))) := ⟨_, rfl⟩; obtain ⟨c20, hc20⟩ : ∃ c1, c1 = co15 - ((ji7) : Int).toNat := ⟨_, rfl⟩; have hy20 : y339.length = t329.length - ((ji7) : Int).toNat := (by rw [Ny339.out, List.length_drop] <;> omega); rw [show (t329).drop ((ji7) : Int).toNat = y339 from Ny339.out.symm] at hr20; replace hr20 : Kd.F (Kd.int .u8) _ _ A20 y339.length y339 := (by rw [hA20]; exact hr20); rw [← hy20, ← hA20, ← hc20] at hcut20; have HO343 := Aside0.mk (show Kd.V (Kd.int .u8) 5 _ w.heap.size _ (.slice A20 y339.length c20) y339 from Kd.V_mk (by rw [hy20, hc20]; exact Nat.sub_le_sub_right hroom20 _) hr20); have HC343 := Aside0.mk (show y339.length ≤ c20 from by rw [hy20, hc20]; exact Nat.sub_le_sub_right hroom20 _); clear hr20 hC20 hroom20 hi020 hsz20 hc20; have KY20 := Aside0.mk hy20; have KA20 := Aside0.mk hA20; clear hy20 hA20; replace q20 := eq_true q20) | (go_at_call 13; (with_reducible refine (layout_Skip.calls k _ _ y339 t344 t345 _ ?side1 ?side2 ?side3 A10.out).mono ?_); (case side1 => exact Gl.below HG.out (by repeat (first | (with_reducible first | exact HB.out | apply below_alloc | apply pw_below_drewN | apply below_drew1 | refine below_set ?_ GE338.out) | exact HB.out))); (case side2 => repeat (first | exact (Kd.V_reads' HO343.out).2.2 | (with_reducible refine Kd.C_alloc ?_ _) | (with_reducible refine Kd.C_drewN ?_ _) | (with_reducible refine Kd.C_drew ?_))); (case side3 => exact (Kd.V_reads' HO343.out).2.1); rintro e w21 ⟨rfl, hb⟩; have n0_ := Aside0.mk (Kd.V_below (by (with_reducible repeat (first | apply Kd.V_alloc | apply Kd.V_drewN | apply Kd.V_drew)); exact HO331.out) hb); have n1_ := Aside0.mk (Kd.V_below (by (with_reducible repeat (first | apply Kd.V_alloc | apply Kd.V_drewN | apply Kd.V_drew)); exact HO343.out) hb); have n2_ := Aside0.mk (blk_below (g := gb338) (o := .cells #[.int .i64 t332, .int .i64 t333, .int .i64 t334, .string t335, .int .i64 t336] 27 (0, 0)) (by (with_reducible repeat (first | refine blk_drewN ?_ _ | refine blk_drew ?_ | refine blk_alloc ?_ _)); exact BK338.out) hb); have n3_ := Aside0.mk (below_step (by repeat (first | (with_reducible first | exact HB.out | apply below_alloc | apply pw_below_drewN | apply below_drew1 | refine below_set ?_ GE338.out) | exact HB.out)) hb); clear HO331; clear HO343; clear BK338; clear HB; have HO331 := n0_; have HO343 := n1_; have BK338 := n2_; have HB := n3_; clear n0_ n1_ n2_ n3_; (try clear hb); (try clear hb2); (try clear hk); (try clear hi))); go_upto_region 8 with (first | (go_at_call 9; (with_reducible refine (tmesislaw06_shown.calls k  t328 _ ?side1 A3.out).mono ?_); (case side1 => exact Gl.below HG.out (by repeat (first | (with_reducible first | exact HB.out | apply below_alloc | apply pw_below_drewN | apply below_drew1) | exact HB.out))); rintro e w13 ⟨rfl, hb⟩; have n0_ := Aside0.mk (below_step (by repeat (first | (with_reducible first | exact HB.out | apply below_alloc | apply pw_below_drewN | apply below_drew1) | exact HB.out)) hb); clear HB; have HB := n0_; clear n0_; (try clear hb); (try clear hb2); (try clear hk); (try clear hi)) | (go_at_call 10; (with_reducible refine (tmesislaw06_few.calls (fun k_ => k_ < w.heap.size) _ _ l0 t329 _ ?side1 A4.out).mono ?_); (case side1 => exact Kd.V_mk HC0.out (Kd.F_below (Kd.C_F (Kd.heap_int .u8) HR0.out) (by repeat (first | (with_reducible first | exact HB.out | apply below_alloc | apply pw_below_drewN | apply below_drew1) | exact HB.out)))); rintro e w14 ⟨v330, rfl, ho0, hb⟩; have n0_ := Aside0.mk (Kd.V_lower (Kd.V_mono (ok' := fun k_ => True) ho0 (fun k_ hk_ => trivial)) (below_size (by repeat (first | (with_reducible first | exact HB.out | apply below_alloc | apply pw_below_drewN | apply below_drew1) | exact HB.out)))); have n1_ := Aside0.mk (below_step (by repeat (first | (with_reducible first | exact HB.out | apply below_alloc | apply pw_below_drewN | apply below_drew1) | exact HB.out)) hb); clear HB; have HO331 := n0_; have HB := n1_; clear n0_ n1_; (try clear hb); (try clear hb2); (try clear hk); (try clear hi); (try clear ho0); obtain ⟨Ao15, co15, eo15⟩ := Kd.V_slice HO331.out; subst eo15) | (go_at_call 11; (with_reducible refine (token_Next.calls k _ _ t329 ji7 t332 t333 t334 t335 t336 true _ ?side1 ?side2 ?side3 A6.out).mono ?_); (case side1 => exact Gl.below HG.out (by repeat (first | (with_reducible first | exact HB.out | apply below_alloc | apply pw_below_drewN | apply below_drew1) | exact HB.out))); (case side2 => repeat (first | exact (Kd.V_reads' HO331.out).2.2 | (with_reducible refine Kd.C_alloc ?_ _) | (with_reducible refine Kd.C_drewN ?_ _) | (with_reducible refine Kd.C_drew ?_))); (case side3 => exact (Kd.V_reads' HO331.out).2.1); rintro e w16 ⟨rfl, hb⟩; have n0_ := Aside0.mk (Kd.V_below (by (with_reducible repeat (first | apply Kd.V_alloc | apply Kd.V_drewN | apply Kd.V_drew)); exact HO331.out) hb); have n1_ := Aside0.mk (below_step (by repeat (first | (with_reducible first | exact HB.out | apply below_alloc | apply pw_below_drewN | apply below_drew1) | exact HB.out)) hb); clear HO331; clear HB; have HO331 := n0_; have HB := n1_; clear n0_ n1_; (try clear hb); (try clear hb2); (try clear hk); (try clear hi)) | ((with_reducible refine gate_dst (N := 8) rfl ?_); (try (refine gate_guard (by rfl) ?_; dsimp only)); refine box_event ?hg (N := 8) ?hd (cs := #[.int .i64 0, .int .i64 0, .int .i64 0, .string (⟨#[]⟩ : ByteArray), .int .i64 0]) (t := 27) ?hr ?_; (case hd => rfl); (case hg => rfl); (case hr => first | (go_simp; done) | (go_simp; rfl)); intro gb338 hg w17 hbox hb; have n0_ := Aside0.mk (Kd.V_below (Kd.V_elderB (by (with_reducible repeat (first | apply Kd.V_alloc | apply Kd.V_drewN | apply Kd.V_drew)); exact HO331.out) gb338 (Nat.le_of_eq hg.symm)) hb); have n1_ := Aside0.mk (below_step (by repeat (first | (with_reducible first | exact HB.out | apply below_alloc | apply pw_below_drewN | apply below_drew1) | exact HB.out)) hb); have n2_ := Aside0.mk (hbox); have n3_ := Aside0.mk ((by rw [hg]; exact (below_size (by repeat (first | (with_reducible first | exact HB.out | apply below_alloc | apply pw_below_drewN | apply below_drew1) | exact HB.out))) : w.heap.size ≤ gb338)); have n4_ := Aside0.mk ((by rw [hg]; exact (below_size (by repeat (first | (with_reducible first | exact HB.out | apply below_alloc | apply pw_below_drewN | apply below_drew1) | exact HB.out))) : w.heap.size ≤ gb338)); clear HO331; clear HB; have HO331 := n0_; have HB := n1_; have BK338 := n2_; have GW338 := n3_; have GE338 := n4_; clear n0_ n1_ n2_ n3_ n4_; clear hb hbox hg; have hcz18_0 : w17.cell? ⟨gb338, 0, none⟩ = some (.int .i64 0) := (blk_cell BK338.out 0).trans rfl; have hcz18_1 : w17.cell? ⟨gb338, 1, none⟩ = some (.int .i64 0) := (blk_cell BK338.out 1).trans rfl; have hcz18_2 : w17.cell? ⟨gb338, 2, none⟩ = some (.int .i64 0) := (blk_cell BK338.out 2).trans rfl; have hcz18_3 : w17.cell? ⟨gb338, 3, none⟩ = some (.string (⟨#[]⟩ : ByteArray)) := (blk_cell BK338.out 3).trans rfl; have hcz18_4 : w17.cell? ⟨gb338, 4, none⟩ = some (.int .i64 0) := (blk_cell BK338.out 4).trans rfl; have hfz18_0 := blk_frozen BK338.out 0; have hfz18_1 := blk_frozen BK338.out 1; have hfz18_2 := blk_frozen BK338.out 2; have hfz18_3 := blk_frozen BK338.out 3; have hfz18_4 := blk_frozen BK338.out 4) | ((with_reducible refine gate_store (t := 27) (p := 8) rfl ?_); (try (rw [drewN_self w17]; generalize hq_ : World.drewN w17 _ = w17; have n0_ := Aside0.mk (Kd.V_at hq_ HO331.out); have n1_ := Aside0.mk (blk_at hq_ BK338.out); have n2_ := Aside0.mk (below_at hq_ HB.out); clear hq_ HO331 BK338 HB; have HO331 := n0_; have BK338 := n1_; have HB := n2_; clear n0_ n1_ n2_)); refine store_event (t := 27) (p := 8) (v := ?vo_w19) (w1 := (((((w17.setCell ⟨gb338, 0, none⟩ (.int .i64 t332)).setCell ⟨gb338, 1, none⟩ (.int .i64 t333)).setCell ⟨gb338, 2, none⟩ (.int .i64 t334)).setCell ⟨gb338, 3, none⟩ (.string t335)).setCell ⟨gb338, 4, none⟩ (.int .i64 t336))) ?hg ?ho ?hn ?hr ?_; (case ho => rfl); (case hg => rfl); (case hn => rfl); (case hr => first | (go_simp; done) | (go_simp; rfl)); intro w19 hw; have n0_ : Aside0 (Kd.V (Kd.int .u8) 5 w19 w.heap.size (fun k_ => k_ ≠ gb338) (.slice Ao15 t329.length co15) t329) := ⟨(by rw [hw]; exact (by (with_reducible repeat (first | apply Kd.V_alloc | apply Kd.V_drewN | apply Kd.V_drew)); exact Kd.V_mono (Kd.V_far (p := ⟨gb338, 4, none⟩) (Kd.V_far (p := ⟨gb338, 3, none⟩) (Kd.V_far (p := ⟨gb338, 2, none⟩) (Kd.V_far (p := ⟨gb338, 1, none⟩) (Kd.V_far (p := ⟨gb338, 0, none⟩) (Kd.V_mono HO331.out (fun k_ hk => (⟨hk, hk.2⟩ : _ ∧ k_ ≠ gb338))) (fun _ hk => hk.2) (.int .i64 t332)) (fun _ hk => hk.2) (.int .i64 t333)) (fun _ hk => hk.2) (.int .i64 t334)) (fun _ hk => hk.2) (.string t335)) (fun _ hk => hk.2) (.int .i64 t336)) (fun _ hk => hk.1.2)))⟩; have n1_ : Aside0 (w19.heap[gb338]? = some (.cells #[.int .i64 t332, .int .i64 t333, .int .i64 t334, .string t335, .int .i64 t336] 27 (0, 0))) := ⟨(by rw [hw]; exact (by (with_reducible repeat (first | refine blk_drewN ?_ _ | refine blk_drew ?_ | refine blk_alloc ?_ _)); refine blk_put (cs := #[.int .i64 t332, .int .i64 t333, .int .i64 t334, .string t335, .int .i64 0]) ?_ 4 _ rfl; (with_reducible repeat (first | refine blk_drewN ?_ _ | refine blk_drew ?_ | refine blk_alloc ?_ _)); refine blk_put (cs := #[.int .i64 t332, .int .i64 t333, .int .i64 t334, .string (⟨#[]⟩ : ByteArray), .int .i64 0]) ?_ 3 _ rfl; (with_reducible repeat (first | refine blk_drewN ?_ _ | refine blk_drew ?_ | refine blk_alloc ?_ _)); refine blk_put (cs := #[.int .i64 t332, .int .i64 t333, .int .i64 0, .string (⟨#[]⟩ : ByteArray), .int .i64 0]) ?_ 2 _ rfl; (with_reducible repeat (first | refine blk_drewN ?_ _ | refine blk_drew ?_ | refine blk_alloc ?_ _)); refine blk_put (cs := #[.int .i64 t332, .int .i64 0, .int .i64 0, .string (⟨#[]⟩ : ByteArray), .int .i64 0]) ?_ 1 _ rfl; (with_reducible repeat (first | refine blk_drewN ?_ _ | refine blk_drew ?_ | refine blk_alloc ?_ _)); refine blk_put (cs := #[.int .i64 0, .int .i64 0, .int .i64 0, .string (⟨#[]⟩ : ByteArray), .int .i64 0]) ?_ 0 _ rfl; (with_reducible repeat (first | refine blk_drewN ?_ _ | refine blk_drew ?_ | refine blk_alloc ?_ _)); exact BK338.out))⟩; have n2_ : Aside0 (Below w.heap.size w w19) := ⟨(by rw [hw]; exact (by repeat (first | (with_reducible first | exact HB.out | apply below_alloc | apply pw_below_drewN | apply below_drew1 | refine below_set ?_ GE338.out) | exact HB.out)))⟩; clear hw; clear HO331; clear BK338; clear HB; have HO331 := n0_; have BK338 := n1_; have HB := n2_; clear n0_ n1_ n2_; have q20 : ((ji7) : Int) ≤ ((t329.length : Int) : Int) := of_decide_eq_true (by first | (with_reducible assumption) | assumption); obtain ⟨i020, hi020, _, hsz20, _⟩ := info_parts info5; have hroom20 : t329.length ≤ co15 := (Kd.V_reads' HO331.out).2.1; have hC20 : Kd.F (Kd.int .u8) _ _ Ao15 t329.length t329 := (Kd.V_at (base := w.heap.size) HO331.out).2.2; have q020 : (0 : Int) ≤ ((ji7) : Int) := of_decide_eq_true (by first | (with_reducible assumption) | assumption); have hcut20 := cut_from (P := Tryd.prog) 22 5 .i64 Tryd.underlying22 hi020 1 hsz20 Ao15 t329.length co15 (ji7) q020 q20; have hr20 := Kd.F_cut (m := ((ji7) : Int).toNat) (c := co15) hC20 (by omega) hroom20; obtain ⟨A20, hA20⟩ : ∃ A1, A1 = (if co15 = ((ji7) : Int).toNat then Ao15 else (Ao15 : Option Addr).map (·.add (((ji7) : Int).toNat * 1))) := ⟨_, rfl⟩; obtain ⟨c20, hc20⟩ : ∃ c1, c1 = co15 - ((ji7) : Int).toNat := ⟨_, rfl⟩; have hy20 : y339.length = t329.length - ((ji7) : Int).toNat := (by rw [Ny339.out, List.length_drop] <;> omega); rw [show (t329).drop ((ji7) : Int).toNat = y339 from Ny339.out.symm] at hr20; replace hr20 : Kd.F (Kd.int .u8) _ _ A20 y339.length y339 := (by rw [hA20]; exact hr20); rw [← hy20, ← hA20, ← hc20] at hcut20; have HO343 := Aside0.mk (show Kd.V (Kd.int .u8) 5 _ w.heap.size _ (.slice A20 y339.length c20) y339 from Kd.V_mk (by rw [hy20, hc20]; exact Nat.sub_le_sub_right hroom20 _) hr20); have HC343 := Aside0.mk (show y339.length ≤ c20 from by rw [hy20, hc20]; exact Nat.sub_le_sub_right hroom20 _); clear hr20 hC20 hroom20 hi020 hsz20 hc20; have KY20 := Aside0.mk hy20; have KA20 := Aside0.mk hA20; clear hy20 hA20; replace q20 := eq_true q20) | (go_at_call 13; (with_reducible refine (layout_Skip.calls k _ _ y339 t344 t345 _ ?side1 ?side2 ?side3 A10.out).mono ?_); (case side1 => exact Gl.below HG.out (by repeat (first | (with_reducible first | exact HB.out | apply below_alloc | apply pw_below_drewN | apply below_drew1 | refine below_set ?_ GE338.out) | exact HB.out))); (case side2 => repeat (first | exact (Kd.V_reads' HO343.out).2.2 | (with_reducible refine Kd.C_alloc ?_ _) | (with_reducible refine Kd.C_drewN ?_ _) | (with_reducible refine Kd.C_drew ?_))); (case side3 => exact (Kd.V_reads' HO343.out).2.1); rintro e w21 ⟨rfl, hb⟩; have n0_ := Aside0.mk (Kd.V_below (by (with_reducible repeat (first | apply Kd.V_alloc | apply Kd.V_drewN | apply Kd.V_drew)); exact HO331.out) hb); have n1_ := Aside0.mk (Kd.V_below (by (with_reducible repeat (first | apply Kd.V_alloc | apply Kd.V_drewN | apply Kd.V_drew)); exact HO343.out) hb); have n2_ := Aside0.mk (blk_below (g := gb338) (o := .cells #[.int .i64 t332, .int .i64 t333, .int .i64 t334, .string t335, .int .i64 t336] 27 (0, 0)) (by (with_reducible repeat (first | refine blk_drewN ?_ _ | refine blk_drew ?_ | refine blk_alloc ?_ _)); exact BK338.out) hb); have n3_ := Aside0.mk (below_step (by repeat (first | (with_reducible first | exact HB.out | apply below_alloc | apply pw_below_drewN | apply below_drew1 | refine below_set ?_ GE338.out) | exact HB.out)) hb); clear HO331; clear HO343; clear BK338; clear HB; have HO331 := n0_; have HO343 := n1_; have BK338 := n2_; have HB := n3_; clear n0_ n1_ n2_ n3_; (try clear hb); (try clear hb2); (try clear hk); (try clear hi))))
     (try simp only [Act.put, List.setIfInBounds_toArray, List.set_cons_zero, List.set_cons_succ])
     go_cut [96] (fun v96 wc => ∃ (kq : Nat) (x96_11 : Bool), v96 = .bool x96_11 ∧ Aside0 (tmesislaw06_TokenStands.j1 kq t329 x96_11 t332 t333 t334 t335 t336 = some r) ∧ Aside0 (kq ≤ k) ∧ Aside0 (Kd.V (Kd.int .u8) 5 wc w.heap.size (fun k_ => k_ ≠ gb338) (.slice Ao15 t329.length co15) t329) ∧ Aside0 (wc.heap[gb338]? = some (.cells #[.int .i64 t332, .int .i64 t333, .int .i64 t334, .string t335, .int .i64 t336] 27 (0, 0))) ∧ Aside0 (Below w.heap.size w wc))
     case first =>
      have H := HC12.out
      clear HC12
      by_cases c22 : t328 = true
      ·subst c22
       have H1 : (if t333 = (wrap64 ((ji7) + t344)) then (if t334 ≤ t333 then (tmesislaw06_TokenStands.j1 k t329 true t332 t333 t334 t335 t336) else (if t334 > (t329.length : Int) then (tmesislaw06_TokenStands.j1 k t329 true t332 t333 t334 t335 t336) else (if t332 < 1 then (tmesislaw06_TokenStands.j1 k t329 true t332 t333 t334 t335 t336) else (if t332 > 8 then (tmesislaw06_TokenStands.j1 k t329 true t332 t333 t334 t335 t336) else (tmesislaw06_TokenStands.j1 k t329 ((t336 == 0) == (t332 == 8)) t332 t333 t334 t335 t336))))) else (tmesislaw06_TokenStands.j1 k t329 true t332 t333 t334 t335 t336)) = some r := by rw [if_pos rfl] at H; exact H
       clear H
       have H := H1
       clear H1
       by_cases c23 : t333 = (wrap64 ((ji7) + t344))
       ·rw [if_pos c23] at H
        have c23b0 : (t333 == (wrap64 ((ji7) + t344))) = true := beq_iff_eq.mpr c23
        have c23b1 : (t333 != (wrap64 ((ji7) + t344))) = false := bne_eq_false_iff_eq.mpr c23
        clear c23
        (first | rw [c23b0] | (simp only [i64_w, i32_w]; rw [c23b0]) | skip)
        by_cases c24 : t334 ≤ t333
        ·rw [if_pos c24] at H
         have c24b0 : decide (t334 ≤ t333) = true := decide_eq_true c24
         clear c24
         have H' := Aside0.mk H
         clear H
         have hcz25_0 : w21.cell? ⟨gb338, 0, none⟩ = some (.int .i64 t332) := (blk_cell BK338.out 0).trans rfl
         have hcz25_1 : w21.cell? ⟨gb338, 1, none⟩ = some (.int .i64 t333) := (blk_cell BK338.out 1).trans rfl
         have hcz25_2 : w21.cell? ⟨gb338, 2, none⟩ = some (.int .i64 t334) := (blk_cell BK338.out 2).trans rfl
         have hcz25_3 : w21.cell? ⟨gb338, 3, none⟩ = some (.string t335) := (blk_cell BK338.out 3).trans rfl
         have hcz25_4 : w21.cell? ⟨gb338, 4, none⟩ = some (.int .i64 t336) := (blk_cell BK338.out 4).trans rfl
         have hfz25_0 := blk_frozen BK338.out 0
         have hfz25_1 := blk_frozen BK338.out 1
         have hfz25_2 := blk_frozen BK338.out 2
         have hfz25_3 := blk_frozen BK338.out 3
         have hfz25_4 := blk_frozen BK338.out 4
         go_wp2
         repeat (go_quiet (fail); try go_wp2)
         go_meet
         case rel => exact ⟨_, (true), (by first | rfl | (simp; done) | (simp [*]; done)), H', ⟨by first | omega | exact Nat.le_refl _⟩, ⟨by (with_reducible repeat (first | apply Kd.V_alloc | apply Kd.V_drewN | apply Kd.V_drew)); exact HO331.out⟩, ⟨by (with_reducible repeat (first | refine blk_drewN ?_ _ | refine blk_drew ?_ | refine blk_alloc ?_ _)); exact BK338.out⟩, ⟨by repeat (first | (with_reducible first | exact HB.out | apply below_alloc | apply pw_below_drewN | apply below_drew1 | refine below_set ?_ GE338.out) | exact HB.out)⟩⟩
        ·rw [if_neg c24] at H
         have c24b0 : decide (t334 ≤ t333) = false := decide_eq_false c24
         clear c24
         by_cases c26 : t334 > (t329.length : Int)
         ·rw [if_pos c26] at H
          have c26b0 : decide ((t329.length : Int) < t334) = true := decide_eq_true c26
          clear c26
          have H' := Aside0.mk H
          clear H
          have hcz27_0 : w21.cell? ⟨gb338, 0, none⟩ = some (.int .i64 t332) := (blk_cell BK338.out 0).trans rfl
          have hcz27_1 : w21.cell? ⟨gb338, 1, none⟩ = some (.int .i64 t333) := (blk_cell BK338.out 1).trans rfl
          have hcz27_2 : w21.cell? ⟨gb338, 2, none⟩ = some (.int .i64 t334) := (blk_cell BK338.out 2).trans rfl
          have hcz27_3 : w21.cell? ⟨gb338, 3, none⟩ = some (.string t335) := (blk_cell BK338.out 3).trans rfl
          have hcz27_4 : w21.cell? ⟨gb338, 4, none⟩ = some (.int .i64 t336) := (blk_cell BK338.out 4).trans rfl
          have hfz27_0 := blk_frozen BK338.out 0
          have hfz27_1 := blk_frozen BK338.out 1
          have hfz27_2 := blk_frozen BK338.out 2
          have hfz27_3 := blk_frozen BK338.out 3
          have hfz27_4 := blk_frozen BK338.out 4
          go_wp2
          repeat (go_quiet (fail); try go_wp2)
          go_meet
          case rel => exact ⟨_, (true), (by first | rfl | (simp; done) | (simp [*]; done)), H', ⟨by first | omega | exact Nat.le_refl _⟩, ⟨by (with_reducible repeat (first | apply Kd.V_alloc | apply Kd.V_drewN | apply Kd.V_drew)); exact HO331.out⟩, ⟨by (with_reducible repeat (first | refine blk_drewN ?_ _ | refine blk_drew ?_ | refine blk_alloc ?_ _)); exact BK338.out⟩, ⟨by repeat (first | (with_reducible first | exact HB.out | apply below_alloc | apply pw_below_drewN | apply below_drew1 | refine below_set ?_ GE338.out) | exact HB.out)⟩⟩
         ·rw [if_neg c26] at H
          have c26b0 : decide ((t329.length : Int) < t334) = false := decide_eq_false c26
          clear c26
          by_cases c28 : t332 < 1
          ·rw [if_pos c28] at H
           have c28b0 : decide (t332 < 1) = true := decide_eq_true c28
           clear c28
           have H' := Aside0.mk H
           clear H
           have hcz29_0 : w21.cell? ⟨gb338, 0, none⟩ = some (.int .i64 t332) := (blk_cell BK338.out 0).trans rfl
           have hcz29_1 : w21.cell? ⟨gb338, 1, none⟩ = some (.int .i64 t333) := (blk_cell BK338.out 1).trans rfl
           have hcz29_2 : w21.cell? ⟨gb338, 2, none⟩ = some (.int .i64 t334) := (blk_cell BK338.out 2).trans rfl
           have hcz29_3 : w21.cell? ⟨gb338, 3, none⟩ = some (.string t335) := (blk_cell BK338.out 3).trans rfl
           have hcz29_4 : w21.cell? ⟨gb338, 4, none⟩ = some (.int .i64 t336) := (blk_cell BK338.out 4).trans rfl
           have hfz29_0 := blk_frozen BK338.out 0
           have hfz29_1 := blk_frozen BK338.out 1
           have hfz29_2 := blk_frozen BK338.out 2
           have hfz29_3 := blk_frozen BK338.out 3
           have hfz29_4 := blk_frozen BK338.out 4
           go_wp2
           repeat (go_quiet (fail); try go_wp2)
           go_meet
           case rel => exact ⟨_, (true), (by first | rfl | (simp; done) | (simp [*]; done)), H', ⟨by first | omega | exact Nat.le_refl _⟩, ⟨by (with_reducible repeat (first | apply Kd.V_alloc | apply Kd.V_drewN | apply Kd.V_drew)); exact HO331.out⟩, ⟨by (with_reducible repeat (first | refine blk_drewN ?_ _ | refine blk_drew ?_ | refine blk_alloc ?_ _)); exact BK338.out⟩, ⟨by repeat (first | (with_reducible first | exact HB.out | apply below_alloc | apply pw_below_drewN | apply below_drew1 | refine below_set ?_ GE338.out) | exact HB.out)⟩⟩
          ·rw [if_neg c28] at H
           have c28b0 : decide (t332 < 1) = false := decide_eq_false c28
           clear c28
           by_cases c30 : t332 > 8
           ·rw [if_pos c30] at H
            have c30b0 : decide (8 < t332) = true := decide_eq_true c30
            clear c30
            have H' := Aside0.mk H
            clear H
            have hcz31_0 : w21.cell? ⟨gb338, 0, none⟩ = some (.int .i64 t332) := (blk_cell BK338.out 0).trans rfl
            have hcz31_1 : w21.cell? ⟨gb338, 1, none⟩ = some (.int .i64 t333) := (blk_cell BK338.out 1).trans rfl
            have hcz31_2 : w21.cell? ⟨gb338, 2, none⟩ = some (.int .i64 t334) := (blk_cell BK338.out 2).trans rfl
            have hcz31_3 : w21.cell? ⟨gb338, 3, none⟩ = some (.string t335) := (blk_cell BK338.out 3).trans rfl
            have hcz31_4 : w21.cell? ⟨gb338, 4, none⟩ = some (.int .i64 t336) := (blk_cell BK338.out 4).trans rfl
            have hfz31_0 := blk_frozen BK338.out 0
            have hfz31_1 := blk_frozen BK338.out 1
            have hfz31_2 := blk_frozen BK338.out 2
            have hfz31_3 := blk_frozen BK338.out 3
            have hfz31_4 := blk_frozen BK338.out 4
            go_wp2
            repeat (go_quiet (fail); try go_wp2)
            go_meet
            case rel => exact ⟨_, (true), (by first | rfl | (simp; done) | (simp [*]; done)), H', ⟨by first | omega | exact Nat.le_refl _⟩, ⟨by (with_reducible repeat (first | apply Kd.V_alloc | apply Kd.V_drewN | apply Kd.V_drew)); exact HO331.out⟩, ⟨by (with_reducible repeat (first | refine blk_drewN ?_ _ | refine blk_drew ?_ | refine blk_alloc ?_ _)); exact BK338.out⟩, ⟨by repeat (first | (with_reducible first | exact HB.out | apply below_alloc | apply pw_below_drewN | apply below_drew1 | refine below_set ?_ GE338.out) | exact HB.out)⟩⟩
           ·rw [if_neg c30] at H
            have c30b0 : decide (8 < t332) = false := decide_eq_false c30
            clear c30
            have H' := Aside0.mk H
            clear H
            have hcz32_0 : w21.cell? ⟨gb338, 0, none⟩ = some (.int .i64 t332) := (blk_cell BK338.out 0).trans rfl
            have hcz32_1 : w21.cell? ⟨gb338, 1, none⟩ = some (.int .i64 t333) := (blk_cell BK338.out 1).trans rfl
            have hcz32_2 : w21.cell? ⟨gb338, 2, none⟩ = some (.int .i64 t334) := (blk_cell BK338.out 2).trans rfl
            have hcz32_3 : w21.cell? ⟨gb338, 3, none⟩ = some (.string t335) := (blk_cell BK338.out 3).trans rfl
            have hcz32_4 : w21.cell? ⟨gb338, 4, none⟩ = some (.int .i64 t336) := (blk_cell BK338.out 4).trans rfl
            have hfz32_0 := blk_frozen BK338.out 0
            have hfz32_1 := blk_frozen BK338.out 1
            have hfz32_2 := blk_frozen BK338.out 2
            have hfz32_3 := blk_frozen BK338.out 3
            have hfz32_4 := blk_frozen BK338.out 4
            go_wp2
            repeat (go_quiet (fail); try go_wp2)
            go_meet
            case rel => exact ⟨_, (((t336 == 0) == (t332 == 8))), (by first | rfl | (simp; done) | (simp [*]; done)), H', ⟨by first | omega | exact Nat.le_refl _⟩, ⟨by (with_reducible repeat (first | apply Kd.V_alloc | apply Kd.V_drewN | apply Kd.V_drew)); exact HO331.out⟩, ⟨by (with_reducible repeat (first | refine blk_drewN ?_ _ | refine blk_drew ?_ | refine blk_alloc ?_ _)); exact BK338.out⟩, ⟨by repeat (first | (with_reducible first | exact HB.out | apply below_alloc | apply pw_below_drewN | apply below_drew1 | refine below_set ?_ GE338.out) | exact HB.out)⟩⟩
       ·rw [if_neg c23] at H
        have c23b0 : (t333 == (wrap64 ((ji7) + t344))) = false := beq_eq_false_iff_ne.mpr c23
        have c23b1 : (t333 != (wrap64 ((ji7) + t344))) = true := bne_iff_ne.mpr c23
        (first | rw [c23b0] | (simp only [i64_w, i32_w]; rw [c23b0]) | skip)
        have H' := Aside0.mk H
        clear H
        have hcz33_0 : w21.cell? ⟨gb338, 0, none⟩ = some (.int .i64 t332) := (blk_cell BK338.out 0).trans rfl
        have hcz33_1 : w21.cell? ⟨gb338, 1, none⟩ = some (.int .i64 t333) := (blk_cell BK338.out 1).trans rfl
        have hcz33_2 : w21.cell? ⟨gb338, 2, none⟩ = some (.int .i64 t334) := (blk_cell BK338.out 2).trans rfl
        have hcz33_3 : w21.cell? ⟨gb338, 3, none⟩ = some (.string t335) := (blk_cell BK338.out 3).trans rfl
        have hcz33_4 : w21.cell? ⟨gb338, 4, none⟩ = some (.int .i64 t336) := (blk_cell BK338.out 4).trans rfl
        have hfz33_0 := blk_frozen BK338.out 0
        have hfz33_1 := blk_frozen BK338.out 1
        have hfz33_2 := blk_frozen BK338.out 2
        have hfz33_3 := blk_frozen BK338.out 3
        have hfz33_4 := blk_frozen BK338.out 4
        go_wp2
        repeat (go_quiet (fail); try go_wp2)
        go_meet
        case rel => exact ⟨_, (true), (by first | rfl | (simp; done) | (simp [*]; done)), H', ⟨by first | omega | exact Nat.le_refl _⟩, ⟨by (with_reducible repeat (first | apply Kd.V_alloc | apply Kd.V_drewN | apply Kd.V_drew)); exact HO331.out⟩, ⟨by (with_reducible repeat (first | refine blk_drewN ?_ _ | refine blk_drew ?_ | refine blk_alloc ?_ _)); exact BK338.out⟩, ⟨by repeat (first | (with_reducible first | exact HB.out | apply below_alloc | apply pw_below_drewN | apply below_drew1 | refine below_set ?_ GE338.out) | exact HB.out)⟩⟩
      ·replace c22 := Bool.eq_false_iff.mpr c22
       subst c22
       have H1 : (tmesislaw06_TokenStands.j1 k t329 true t332 t333 t334 t335 t336) = some r := by rw [if_neg (show ¬ (false = true) by decide)] at H; exact H
       clear H
       have H := H1
       clear H1
       have H' := Aside0.mk H
       clear H
       go_wp2
       repeat (go_quiet (fail); try go_wp2)
       go_meet
       case rel => exact ⟨_, (true), (by first | rfl | (simp; done) | (simp [*]; done)), H', ⟨by first | omega | exact Nat.le_refl _⟩, ⟨by (with_reducible repeat (first | apply Kd.V_alloc | apply Kd.V_drewN | apply Kd.V_drew)); exact HO331.out⟩, ⟨by (with_reducible repeat (first | refine blk_drewN ?_ _ | refine blk_drew ?_ | refine blk_alloc ?_ _)); exact BK338.out⟩, ⟨by repeat (first | (with_reducible first | exact HB.out | apply below_alloc | apply pw_below_drewN | apply below_drew1 | refine below_set ?_ GE338.out) | exact HB.out)⟩⟩
     case rest =>
      clear HC12
      try clear c1
      try clear c2
      try clear p2
      try clear q2
      try clear c3
      try clear c4
      try clear c5
      try clear c5b0
      try clear c5b1
      try clear p6
      try clear c8
      try clear c8b0
      try clear c8b1
      try clear c9
      try clear c9b0
      try clear c9b1
      try clear c11
      try clear c20
      try clear q20
      try clear c22
      try clear c23
      try clear c23b0
      try clear c23b1
      try clear c24
      try clear c24b0
      try clear c26
      try clear c26b0
      try clear c28
      try clear c28b0
      try clear c30
      try clear c30b0
      try clear hcz18_0
      try clear hcz18_1
      try clear hcz18_2
      try clear hcz18_3
      try clear hcz18_4
      try clear hcz25_0
      try clear hcz25_1
      try clear hcz25_2
      try clear hcz25_3
      try clear hcz25_4
      try clear hcz27_0
      try clear hcz27_1
      try clear hcz27_2
      try clear hcz27_3
      try clear hcz27_4
      try clear hcz29_0
      try clear hcz29_1
      try clear hcz29_2
      try clear hcz29_3
      try clear hcz29_4
      try clear hcz31_0
      try clear hcz31_1
      try clear hcz31_2
      try clear hcz31_3
      try clear hcz31_4
      try clear hcz32_0
      try clear hcz32_1
      try clear hcz32_2
      try clear hcz32_3
      try clear hcz32_4
      try clear hcz33_0
      try clear hcz33_1
      try clear hcz33_2
      try clear hcz33_3
      try clear hcz33_4
      try clear hfz18_0
      try clear hfz18_1
      try clear hfz18_2
      try clear hfz18_3
      try clear hfz18_4
      try clear hfz25_0
      try clear hfz25_1
      try clear hfz25_2
      try clear hfz25_3
      try clear hfz25_4
      try clear hfz27_0
      try clear hfz27_1
      try clear hfz27_2
      try clear hfz27_3
      try clear hfz27_4
      try clear hfz29_0
      try clear hfz29_1
      try clear hfz29_2
      try clear hfz29_3
      try clear hfz29_4
      try clear hfz31_0
      try clear hfz31_1
      try clear hfz31_2
      try clear hfz31_3
      try clear hfz31_4
      try clear hfz32_0
      try clear hfz32_1
      try clear hfz32_2
      try clear hfz32_3
      try clear hfz32_4
      try clear hfz33_0
      try clear hfz33_1
      try clear hfz33_2
      try clear hfz33_3
      try clear hfz33_4
      try clear q020
      try clear q20
      obtain ⟨kq, x96_11, rfl, HA, HJ11, HO_6, BK338, HB⟩ := hcut
      cases kq with
      | zero => exact absurd HA.out (by simp [tmesislaw06_TokenStands.j1])
      | succ kj11 =>
       have H := HA.out
       clear HA
       simp only [tmesislaw06_TokenStands.j1] at H
       by_cases c34 : x96_11 = true
       ·subst c34
        have H1 : (some false) = some r := by rw [if_pos rfl] at H; exact H
        clear H
        have H := H1
        clear H1
        obtain rfl := Option.some.inj H
        go_wp2
        repeat (go_quiet (fail); try go_wp2)
        go_ret
        exact ⟨by first | rfl | (simp [errW_none, errW_some] <;> rfl) | (simp only [← hji7]; first | rfl | (simp [errW_none, errW_some] <;> rfl)) | (simp [*, errW_none, errW_some] <;> rfl), by repeat (first | (with_reducible first | exact HB.out | apply below_alloc | apply pw_below_drewN | apply below_drew1 | refine below_set ?_ GE338.out) | exact HB.out)⟩
       ·replace c34 := Bool.eq_false_iff.mpr c34
        subst c34
        have H1 : (if t332 = 8 then (some (t335.toList == ([] : List UInt8))) else (if t332 = 5 then (tmesislaw06_TokenStands.j2 kj11 true) else (if 0 ≤ t333 then (if t333 ≤ t334 then (if t334 ≤ (t329.length : Int) then (tmesislaw06_TokenStands.j2 kj11 (t335.toList == (strOfNums ((t329.take (t334 : Int).toNat).drop (t333 : Int).toNat)).toList)) else (none)) else (none)) else (none)))) = some r := by rw [if_neg (show ¬ (false = true) by decide)] at H; exact H
        clear H
        have H := H1
        clear H1
        by_cases c35 : t332 = 8
        ·rw [if_pos c35] at H
         have c35b0 : (t332 == 8) = true := beq_iff_eq.mpr c35
         have c35b1 : (t332 != 8) = false := bne_eq_false_iff_eq.mpr c35
         clear c35
         obtain rfl := Option.some.inj H
         have hcz36_0 : wc.cell? ⟨gb338, 0, none⟩ = some (.int .i64 t332) := (blk_cell BK338.out 0).trans rfl
         have hcz36_1 : wc.cell? ⟨gb338, 1, none⟩ = some (.int .i64 t333) := (blk_cell BK338.out 1).trans rfl
         have hcz36_2 : wc.cell? ⟨gb338, 2, none⟩ = some (.int .i64 t334) := (blk_cell BK338.out 2).trans rfl
         have hcz36_3 : wc.cell? ⟨gb338, 3, none⟩ = some (.string t335) := (blk_cell BK338.out 3).trans rfl
         have hcz36_4 : wc.cell? ⟨gb338, 4, none⟩ = some (.int .i64 t336) := (blk_cell BK338.out 4).trans rfl
         have hfz36_0 := blk_frozen BK338.out 0
         have hfz36_1 := blk_frozen BK338.out 1
         have hfz36_2 := blk_frozen BK338.out 2
         have hfz36_3 := blk_frozen BK338.out 3
         have hfz36_4 := blk_frozen BK338.out 4
         go_wp2
         repeat (go_quiet (fail); try go_wp2)
         go_ret
         exact ⟨by first | rfl | (simp [errW_none, errW_some] <;> rfl) | (simp only [← hji7]; first | rfl | (simp [errW_none, errW_some] <;> rfl)) | (simp [*, errW_none, errW_some] <;> rfl), by repeat (first | (with_reducible first | exact HB.out | apply below_alloc | apply pw_below_drewN | apply below_drew1 | refine below_set ?_ GE338.out) | exact HB.out)⟩
        ·rw [if_neg c35] at H
         have c35b0 : (t332 == 8) = false := beq_eq_false_iff_ne.mpr c35
         have c35b1 : (t332 != 8) = true := bne_iff_ne.mpr c35
         have HC37 := Aside0.mk H
         clear H
         have hcz38_0 : wc.cell? ⟨gb338, 0, none⟩ = some (.int .i64 t332) := (blk_cell BK338.out 0).trans rfl
         have hcz38_1 : wc.cell? ⟨gb338, 1, none⟩ = some (.int .i64 t333) := (blk_cell BK338.out 1).trans rfl
         have hcz38_2 : wc.cell? ⟨gb338, 2, none⟩ = some (.int .i64 t334) := (blk_cell BK338.out 2).trans rfl
         have hcz38_3 : wc.cell? ⟨gb338, 3, none⟩ = some (.string t335) := (blk_cell BK338.out 3).trans rfl
         have hcz38_4 : wc.cell? ⟨gb338, 4, none⟩ = some (.int .i64 t336) := (blk_cell BK338.out 4).trans rfl
         have hfz38_0 := blk_frozen BK338.out 0
         have hfz38_1 := blk_frozen BK338.out 1
         have hfz38_2 := blk_frozen BK338.out 2
         have hfz38_3 := blk_frozen BK338.out 3
         have hfz38_4 := blk_frozen BK338.out 4
         go_upto_region 12 with (fail)
         repeat (go_quiet (fail); go_upto_region 12 with (fail))
         go_cut [4] (fun v4 wc => ∃ (kq : Nat) (x4_36 : Bool), v4 = .bool x4_36 ∧ Aside0 (tmesislaw06_TokenStands.j2 kq x4_36 = some r) ∧ Aside0 (kq ≤ kj11) ∧ Aside0 (wc.heap[gb338]? = some (.cells #[.int .i64 t332, .int .i64 t333, .int .i64 t334, .string t335, .int .i64 t336] 27 (0, 0))) ∧ Aside0 (Below w.heap.size w wc))
         case first =>
          have H := HC37.out
          clear HC37
          by_cases c39 : t332 = 5
          ·rw [if_pos c39] at H
           have c39b0 : (t332 == 5) = true := beq_iff_eq.mpr c39
           have c39b1 : (t332 != 5) = false := bne_eq_false_iff_eq.mpr c39
           clear c39
           (first | rw [c39b0] | (simp only [i64_w, i32_w]; rw [c39b0]) | skip)
           have H' := Aside0.mk H
           clear H
           have hcz40_0 : wc.cell? ⟨gb338, 0, none⟩ = some (.int .i64 t332) := (blk_cell BK338.out 0).trans rfl
           have hcz40_1 : wc.cell? ⟨gb338, 1, none⟩ = some (.int .i64 t333) := (blk_cell BK338.out 1).trans rfl
           have hcz40_2 : wc.cell? ⟨gb338, 2, none⟩ = some (.int .i64 t334) := (blk_cell BK338.out 2).trans rfl
           have hcz40_3 : wc.cell? ⟨gb338, 3, none⟩ = some (.string t335) := (blk_cell BK338.out 3).trans rfl
           have hcz40_4 : wc.cell? ⟨gb338, 4, none⟩ = some (.int .i64 t336) := (blk_cell BK338.out 4).trans rfl
           have hfz40_0 := blk_frozen BK338.out 0
           have hfz40_1 := blk_frozen BK338.out 1
           have hfz40_2 := blk_frozen BK338.out 2
           have hfz40_3 := blk_frozen BK338.out 3
           have hfz40_4 := blk_frozen BK338.out 4
           go_wp2
           repeat (go_quiet (fail); try go_wp2)
           go_meet
           case rel => exact ⟨_, (true), (by first | rfl | (simp; done) | (simp [*]; done)), H', ⟨by have := HJ11.out; first | omega | exact Nat.le_refl _⟩, ⟨by (with_reducible repeat (first | refine blk_drewN ?_ _ | refine blk_drew ?_ | refine blk_alloc ?_ _)); exact BK338.out⟩, ⟨by repeat (first | (with_reducible first | exact HB.out | apply below_alloc | apply pw_below_drewN | apply below_drew1 | refine below_set ?_ GE338.out) | exact HB.out)⟩⟩
          ·rw [if_neg c39] at H
           have c39b0 : (t332 == 5) = false := beq_eq_false_iff_ne.mpr c39
           have c39b1 : (t332 != 5) = true := bne_iff_ne.mpr c39
           (first | rw [c39b0] | (simp only [i64_w, i32_w]; rw [c39b0]) | skip)
           by_cases c41 : 0 ≤ t333
           ·rw [if_pos c41] at H
            have c41b0 := eq_true c41
            have c41b1 : decide (0 ≤ t333) = true := decide_eq_true c41
            clear c41
            by_cases c42 : t333 ≤ t334
            ·rw [if_pos c42] at H
             have c42b0 := eq_true c42
             have c42b1 : decide (t333 ≤ t334) = true := decide_eq_true c42
             clear c42
             by_cases c43 : t334 ≤ (t329.length : Int)
             ·rw [if_pos c43] at H
              have c43b0 := eq_true c43
              have c43b1 : decide (t334 ≤ (t329.length : Int)) = true := decide_eq_true c43
              clear c43
              obtain ⟨y346, hy346⟩ : ∃ y_ : List Int, y_ = ((t329.take (t334 : Int).toNat).drop (t333 : Int).toNat) := ⟨_, rfl⟩
              replace H : (tmesislaw06_TokenStands.j2 kj11 (t335.toList == (strOfNums y346).toList)) = some r := by first | (rw [hy346]; with_reducible exact H) | (have H2_ := (Option.bind_some _ _).symm.trans H; rw [hy346]; with_reducible exact H2_) | (have H2_ := (Option.bind_some _ _).symm.trans H; with_reducible exact H2_) | with_reducible exact H | (rw [hy346]; exact H) | exact H
              have Ny346 := Aside0.mk hy346
              clear hy346
              have H' := Aside0.mk H
              clear H
              have hcz44_0 : wc.cell? ⟨gb338, 0, none⟩ = some (.int .i64 t332) := (blk_cell BK338.out 0).trans rfl
              have hcz44_1 : wc.cell? ⟨gb338, 1, none⟩ = some (.int .i64 t333) := (blk_cell BK338.out 1).trans rfl
              have hcz44_2 : wc.cell? ⟨gb338, 2, none⟩ = some (.int .i64 t334) := (blk_cell BK338.out 2).trans rfl
              have hcz44_3 : wc.cell? ⟨gb338, 3, none⟩ = some (.string t335) := (blk_cell BK338.out 3).trans rfl
              have hcz44_4 : wc.cell? ⟨gb338, 4, none⟩ = some (.int .i64 t336) := (blk_cell BK338.out 4).trans rfl
              have hfz44_0 := blk_frozen BK338.out 0
              have hfz44_1 := blk_frozen BK338.out 1
              have hfz44_2 := blk_frozen BK338.out 2
              have hfz44_3 := blk_frozen BK338.out 3
              have hfz44_4 := blk_frozen BK338.out 4
              have q45 : (t334 : Int) ≤ ((t329.length : Int) : Int) := of_decide_eq_true (by first | (with_reducible assumption) | assumption)
              obtain ⟨i045, hi045, _, hsz45, _⟩ := info_parts info5
              have hroom45 : t329.length ≤ co15 := (Kd.V_reads' HO_6.out).2.1
              have hC45 : Kd.F (Kd.int .u8) _ _ Ao15 t329.length t329 := (Kd.V_at (base := w.heap.size) HO_6.out).2.2
              have ql45 : (t333 : Int) ≤ (t334 : Int) := of_decide_eq_true (by first | (with_reducible assumption) | assumption)
              have q045 : (0 : Int) ≤ (t333 : Int) := of_decide_eq_true (by first | (with_reducible assumption) | assumption)
              have hcut45 := cut_mid (P := Tryd.prog) 22 5 .i64 .i64 Tryd.underlying22 hi045 1 hsz45 Ao15 t329.length co15 t333 t334 q045 ql45 q45 hroom45
              have hr45 := Kd.F_mid (lo := (t333 : Int).toNat) (hi := (t334 : Int).toNat) (c := co15) hC45 (by omega) (by omega) hroom45
              obtain ⟨A45, hA45⟩ : ∃ A1, A1 = (if co15 = (t333 : Int).toNat then Ao15 else (Ao15 : Option Addr).map (·.add ((t333 : Int).toNat * 1))) := ⟨_, rfl⟩
              obtain ⟨c45, hc45⟩ : ∃ c1, c1 = co15 - (t333 : Int).toNat := ⟨_, rfl⟩
              have hy45 : y346.length = (t334 : Int).toNat - (t333 : Int).toNat := (by rw [Ny346.out, List.length_drop, List.length_take] <;> omega)
              rw [show ((t329).take (t334 : Int).toNat).drop (t333 : Int).toNat = y346 from Ny346.out.symm] at hr45
              replace hr45 : Kd.F (Kd.int .u8) _ _ A45 y346.length y346 := (by rw [hA45]; exact hr45)
              rw [← hy45, ← hA45, ← hc45] at hcut45
              have HO350 := Aside0.mk (show Kd.V (Kd.int .u8) 5 _ w.heap.size _ (.slice A45 y346.length c45) y346 from Kd.V_mk (by rw [hy45, hc45]; exact Nat.sub_le_sub_right (Nat.le_trans (by omega) hroom45) _) hr45)
              have HC350 := Aside0.mk (show y346.length ≤ c45 from by rw [hy45, hc45]; exact Nat.sub_le_sub_right (Nat.le_trans (by omega) hroom45) _)
              clear hr45 hC45 hroom45 hi045 hsz45 hc45
              have KY45 := Aside0.mk hy45
              have KA45 := Aside0.mk hA45
              clear hy45 hA45
              replace q45 := eq_true q45
              (first | (have hcv46 := own_string (P := Tryd.prog) Tryd.underlying22 Tryd.underlying5 Tryd.underlying9 (Kd.own_of_R HO350.out); have hcv46q := fun (q_ : Nat) => own_string (P := Tryd.prog) Tryd.underlying22 Tryd.underlying5 Tryd.underlying9 (pw_own_drewN (Kd.own_of_R HO350.out) q_)) | (have hcv46 := V_string (P := Tryd.prog) Tryd.underlying22 Tryd.underlying5 Tryd.underlying9 HO350.out; have hcv46q := fun (q_ : Nat) => V_string (P := Tryd.prog) Tryd.underlying22 Tryd.underlying5 Tryd.underlying9 (Kd.V_drewN HO350.out q_)))
              go_wp2
              repeat (go_quiet (fail); try go_wp2)
              go_meet
              case rel => exact ⟨_, ((t335.toList == (strOfNums y346).toList)), (by first | rfl | (simp; done) | (simp [*]; done)), H', ⟨by have := HJ11.out; first | omega | exact Nat.le_refl _⟩, ⟨by (with_reducible repeat (first | refine blk_drewN ?_ _ | refine blk_drew ?_ | refine blk_alloc ?_ _)); exact BK338.out⟩, ⟨by repeat (first | (with_reducible first | exact HB.out | apply below_alloc | apply pw_below_drewN | apply below_drew1 | refine below_set ?_ GE338.out) | exact HB.out)⟩⟩
             ·rw [if_neg c43] at H
              exact absurd H (by simp)
            ·rw [if_neg c42] at H
             exact absurd H (by simp)
           ·rw [if_neg c41] at H
            exact absurd H (by simp)
         case rest =>
          clear HC37
          try clear c1
          try clear c2
          try clear p2
          try clear q2
          try clear c3
          try clear c4
          try clear q4
          try clear hcv4
          try clear c5
          try clear c5b0
          try clear c5b1
          try clear p6
          try clear c8
          try clear c8b0
          try clear c8b1
          try clear c9
          try clear c9b0
          try clear c9b1
          try clear c11
          try clear c20
          try clear q20
          try clear c22
          try clear c23
          try clear c23b0
          try clear c23b1
          try clear c24
          try clear c24b0
          try clear c26
          try clear c26b0
          try clear c28
          try clear c28b0
          try clear c30
          try clear c30b0
          try clear c34
          try clear c35
          try clear c35b0
          try clear c35b1
          try clear c39
          try clear c39b0
          try clear c39b1
          try clear c41
          try clear c41b0
          try clear c41b1
          try clear c42
          try clear c42b0
          try clear c42b1
          try clear c43
          try clear c43b0
          try clear c43b1
          try clear c45
          try clear q45
          try clear hcv46
          try clear hcz18_0
          try clear hcz18_1
          try clear hcz18_2
          try clear hcz18_3
          try clear hcz18_4
          try clear hcz25_0
          try clear hcz25_1
          try clear hcz25_2
          try clear hcz25_3
          try clear hcz25_4
          try clear hcz27_0
          try clear hcz27_1
          try clear hcz27_2
          try clear hcz27_3
          try clear hcz27_4
          try clear hcz29_0
          try clear hcz29_1
          try clear hcz29_2
          try clear hcz29_3
          try clear hcz29_4
          try clear hcz31_0
          try clear hcz31_1
          try clear hcz31_2
          try clear hcz31_3
          try clear hcz31_4
          try clear hcz32_0
          try clear hcz32_1
          try clear hcz32_2
          try clear hcz32_3
          try clear hcz32_4
          try clear hcz33_0
          try clear hcz33_1
          try clear hcz33_2
          try clear hcz33_3
          try clear hcz33_4
          try clear hcz36_0
          try clear hcz36_1
          try clear hcz36_2
          try clear hcz36_3
          try clear hcz36_4
          try clear hcz38_0
          try clear hcz38_1
          try clear hcz38_2
          try clear hcz38_3
          try clear hcz38_4
          try clear hcz40_0
          try clear hcz40_1
          try clear hcz40_2
          try clear hcz40_3
          try clear hcz40_4
          try clear hcz44_0
          try clear hcz44_1
          try clear hcz44_2
          try clear hcz44_3
          try clear hcz44_4
          try clear hfz18_0
          try clear hfz18_1
          try clear hfz18_2
          try clear hfz18_3
          try clear hfz18_4
          try clear hfz25_0
          try clear hfz25_1
          try clear hfz25_2
          try clear hfz25_3
          try clear hfz25_4
          try clear hfz27_0
          try clear hfz27_1
          try clear hfz27_2
          try clear hfz27_3
          try clear hfz27_4
          try clear hfz29_0
          try clear hfz29_1
          try clear hfz29_2
          try clear hfz29_3
          try clear hfz29_4
          try clear hfz31_0
          try clear hfz31_1
          try clear hfz31_2
          try clear hfz31_3
          try clear hfz31_4
          try clear hfz32_0
          try clear hfz32_1
          try clear hfz32_2
          try clear hfz32_3
          try clear hfz32_4
          try clear hfz33_0
          try clear hfz33_1
          try clear hfz33_2
          try clear hfz33_3
          try clear hfz33_4
          try clear hfz36_0
          try clear hfz36_1
          try clear hfz36_2
          try clear hfz36_3
          try clear hfz36_4
          try clear hfz38_0
          try clear hfz38_1
          try clear hfz38_2
          try clear hfz38_3
          try clear hfz38_4
          try clear hfz40_0
          try clear hfz40_1
          try clear hfz40_2
          try clear hfz40_3
          try clear hfz40_4
          try clear hfz44_0
          try clear hfz44_1
          try clear hfz44_2
          try clear hfz44_3
          try clear hfz44_4
          try clear p2
          try clear p6
          try clear q020
          try clear q045
          try clear q2
          try clear q20
          try clear q45
          obtain ⟨kq, x4_36, rfl, HA, HJ36, BK338, HB⟩ := hcut
          cases kq with
          | zero => exact absurd HA.out (by simp [tmesislaw06_TokenStands.j2])
          | succ kj36 =>
           have H := HA.out
           clear HA
           simp only [tmesislaw06_TokenStands.j2] at H
           obtain rfl := Option.some.inj H
           go_wp2
           repeat (go_quiet (fail); try go_wp2)
           go_ret
           exact ⟨by first | rfl | (simp [errW_none, errW_some] <;> rfl) | (simp only [← hji7]; first | rfl | (simp [errW_none, errW_some] <;> rfl)) | (simp [*, errW_none, errW_some] <;> rfl), by repeat (first | (with_reducible first | exact HB.out | apply below_alloc | apply pw_below_drewN | apply below_drew1 | refine below_set ?_ GE338.out) | exact HB.out)⟩
    ·replace c11 := Bool.eq_false_iff.mpr c11
     subst c11
     have H1 : (if t328 = true then (if t345 = 0 then (if t344 = (wrap64 ((t329.length : Int) - (ji7))) then (tmesislaw06_TokenStands.j0 k (t332 == 0 && (t333 == 0 && (t334 == 0 && (t335.toList == ([] : List UInt8) && (t336 == 0)))))) else (tmesislaw06_TokenStands.j0 k false)) else (tmesislaw06_TokenStands.j0 k false)) else (tmesislaw06_TokenStands.j0 k false)) = some r := by rw [if_neg (show ¬ (false = true) by decide)] at H; exact H
     clear H
     have H := H1
     clear H1
     have HC47 := Aside0.mk H
     clear H
     go_enter Tryd.func4, Tryd.ntmps4
     go_upto_region 7 with (first | (go_at_call 9; (with_reducible refine (tmesislaw06_shown.calls k  t328 _ ?side1 A3.out).mono ?_); (case side1 => exact Gl.below HG.out (by repeat (first | (with_reducible first | exact HB.out | apply below_alloc | apply pw_below_drewN | apply below_drew1) | exact HB.out))); rintro e w48 ⟨rfl, hb⟩; have n0_ := Aside0.mk (below_step (by repeat (first | (with_reducible first | exact HB.out | apply below_alloc | apply pw_below_drewN | apply below_drew1) | exact HB.out)) hb); clear HB; have HB := n0_; clear n0_; (try clear hb); (try clear hb2); (try clear hk); (try clear hi)) | (go_at_call 10; (with_reducible refine (tmesislaw06_few.calls (fun k_ => k_ < w.heap.size) _ _ l0 t329 _ ?side1 A4.out).mono ?_); (case side1 => exact Kd.V_mk HC0.out (Kd.F_below (Kd.C_F (Kd.heap_int .u8) HR0.out) (by repeat (first | (with_reducible first | exact HB.out | apply below_alloc | apply pw_below_drewN | apply below_drew1) | exact HB.out)))); rintro e w49 ⟨v330, rfl, ho0, hb⟩; have n0_ := Aside0.mk (Kd.V_lower (Kd.V_mono (ok' := fun k_ => True) ho0 (fun k_ hk_ => trivial)) (below_size (by repeat (first | (with_reducible first | exact HB.out | apply below_alloc | apply pw_below_drewN | apply below_drew1) | exact HB.out)))); have n1_ := Aside0.mk (below_step (by repeat (first | (with_reducible first | exact HB.out | apply below_alloc | apply pw_below_drewN | apply below_drew1) | exact HB.out)) hb); clear HB; have HO331 := n0_; have HB := n1_; clear n0_ n1_; (try clear hb); (try clear hb2); (try clear hk); (try clear hi); (try clear ho0); obtain ⟨Ao50, co50, eo50⟩ := Kd.V_slice HO331.out; subst eo50) | (go_at_call 11; (with_reducible refine (token_Next.calls k _ _ t329 ji7 t332 t333 t334 t335 t336 false _ ?side1 ?side2 ?side3 A6.out).mono ?_); (case side1 => exact Gl.below HG.out (by repeat (first | (with_reducible first | exact HB.out | apply below_alloc | apply pw_below_drewN | apply below_drew1) | exact HB.out))); (case side2 => repeat (first | exact (Kd.V_reads' HO331.out).2.2 | (with_reducible refine Kd.C_alloc ?_ _) | (with_reducible refine Kd.C_drewN ?_ _) | (with_reducible refine Kd.C_drew ?_))); (case side3 => exact (Kd.V_reads' HO331.out).2.1); rintro e w51 ⟨rfl, hb⟩; have n0_ := Aside0.mk (Kd.V_below (by (with_reducible repeat (first | apply Kd.V_alloc | apply Kd.V_drewN | apply Kd.V_drew)); exact HO331.out) hb); have n1_ := Aside0.mk (below_step (by repeat (first | (with_reducible first | exact HB.out | apply below_alloc | apply pw_below_drewN | apply below_drew1) | exact HB.out)) hb); clear HO331; clear HB; have HO331 := n0_; have HB := n1_; clear n0_ n1_; (try clear hb); (try clear hb2); (try clear hk); (try clear hi)) | ((with_reducible refine gate_dst (N := 8) rfl ?_); (try (refine gate_guard (by rfl) ?_; dsimp only)); refine box_event ?hg (N := 8) ?hd (cs := #[.int .i64 0, .int .i64 0, .int .i64 0, .string (⟨#[]⟩ : ByteArray), .int .i64 0]) (t := 27) ?hr ?_; (case hd => rfl); (case hg => rfl); (case hr => first | (go_simp; done) | (go_simp; rfl)); intro gb338 hg w52 hbox hb; have n0_ := Aside0.mk (Kd.V_below (Kd.V_elderB (by (with_reducible repeat (first | apply Kd.V_alloc | apply Kd.V_drewN | apply Kd.V_drew)); exact HO331.out) gb338 (Nat.le_of_eq hg.symm)) hb); have n1_ := Aside0.mk (below_step (by repeat (first | (with_reducible first | exact HB.out | apply below_alloc | apply pw_below_drewN | apply below_drew1) | exact HB.out)) hb); have n2_ := Aside0.mk (hbox); have n3_ := Aside0.mk ((by rw [hg]; exact (below_size (by repeat (first | (with_reducible first | exact HB.out | apply below_alloc | apply pw_below_drewN | apply below_drew1) | exact HB.out))) : w.heap.size ≤ gb338)); have n4_ := Aside0.mk ((by rw [hg]; exact (below_size (by repeat (first | (with_reducible first | exact HB.out | apply below_alloc | apply pw_below_drewN | apply below_drew1) | exact HB.out))) : w.heap.size ≤ gb338)); clear HO331; clear HB; have HO331 := n0_; have HB := n1_; have BK338 := n2_; have GW338 := n3_; have GE338 := n4_; clear n0_ n1_ n2_ n3_ n4_; clear hb hbox hg; have hcz53_0 : w52.cell? ⟨gb338, 0, none⟩ = some (.int .i64 0) := (blk_cell BK338.out 0).trans rfl; have hcz53_1 : w52.cell? ⟨gb338, 1, none⟩ = some (.int .i64 0) := (blk_cell BK338.out 1).trans rfl; have hcz53_2 : w52.cell? ⟨gb338, 2, none⟩ = some (.int .i64 0) := (blk_cell BK338.out 2).trans rfl; have hcz53_3 : w52.cell? ⟨gb338, 3, none⟩ = some (.string (⟨#[]⟩ : ByteArray)) := (blk_cell BK338.out 3).trans rfl; have hcz53_4 : w52.cell? ⟨gb338, 4, none⟩ = some (.int .i64 0) := (blk_cell BK338.out 4).trans rfl; have hfz53_0 := blk_frozen BK338.out 0; have hfz53_1 := blk_frozen BK338.out 1; have hfz53_2 := blk_frozen BK338.out 2; have hfz53_3 := blk_frozen BK338.out 3; have hfz53_4 := blk_frozen BK338.out 4) | ((with_reducible refine gate_store (t := 27) (p := 8) rfl ?_); (try (rw [drewN_self w52]; generalize hq_ : World.drewN w52 _ = w52; have n0_ := Aside0.mk (Kd.V_at hq_ HO331.out); have n1_ := Aside0.mk (blk_at hq_ BK338.out); have n2_ := Aside0.mk (below_at hq_ HB.out); clear hq_ HO331 BK338 HB; have HO331 := n0_; have BK338 := n1_; have HB := n2_; clear n0_ n1_ n2_)); refine store_event (t := 27) (p := 8) (v := ?vo_w54) (w1 := (((((w52.setCell ⟨gb338, 0, none⟩ (.int .i64 t332)).setCell ⟨gb338, 1, none⟩ (.int .i64 t333)).setCell ⟨gb338, 2, none⟩ (.int .i64 t334)).setCell ⟨gb338, 3, none⟩ (.string t335)).setCell ⟨gb338, 4, none⟩ (.int .i64 t336))) ?hg ?ho ?hn ?hr ?_; (case ho => rfl); (case hg => rfl); (case hn => rfl); (case hr => first | (go_simp; done) | (go_simp; rfl)); intro w54 hw; have n0_ : Aside0 (Kd.V (Kd.int .u8) 5 w54 w.heap.size (fun k_ => k_ ≠ gb338) (.slice Ao50 t329.length co50) t329) := ⟨(by rw [hw]; exact (by (with_reducible repeat (first | apply Kd.V_alloc | apply Kd.V_drewN | apply Kd.V_drew)); exact Kd.V_mono (Kd.V_far (p := ⟨gb338, 4, none⟩) (Kd.V_far (p := ⟨gb338, 3, none⟩) (Kd.V_far (p := ⟨gb338, 2, none⟩) (Kd.V_far (p := ⟨gb338, 1, none⟩) (Kd.V_far (p := ⟨gb338, 0, none⟩) (Kd.V_mono HO331.out (fun k_ hk => (⟨hk, hk.2⟩ : _ ∧ k_ ≠ gb338))) (fun _ hk => hk.2) (.int .i64 t332)) (fun _ hk => hk.2) (.int .i64 t333)) (fun _ hk => hk.2) (.int .i64 t334)) (fun _ hk => hk.2) (.string t335)) (fun _ hk => hk.2) (.int .i64 t336)) (fun _ hk => hk.1.2)))⟩; have n1_ : Aside0 (w54.heap[gb338]? = some (.cells #[.int .i64 t332, .int .i64 t333, .int .i64 t334, .string t335, .int .i64 t336] 27 (0, 0))) := ⟨(by rw [hw]; exact (by (with_reducible repeat (first | refine blk_drewN ?_ _ | refine blk_drew ?_ | refine blk_alloc ?_ _)); refine blk_put (cs := #[.int .i64 t332, .int .i64 t333, .int .i64 t334, .string t335, .int .i64 0]) ?_ 4 _ rfl; (with_reducible repeat (first | refine blk_drewN ?_ _ | refine blk_drew ?_ | refine blk_alloc ?_ _)); refine blk_put (cs := #[.int .i64 t332, .int .i64 t333, .int .i64 t334, .string (⟨#[]⟩ : ByteArray), .int .i64 0]) ?_ 3 _ rfl; (with_reducible repeat (first | refine blk_drewN ?_ _ | refine blk_drew ?_ | refine blk_alloc ?_ _)); refine blk_put (cs := #[.int .i64 t332, .int .i64 t333, .int .i64 0, .string (⟨#[]⟩ : ByteArray), .int .i64 0]) ?_ 2 _ rfl; (with_reducible repeat (first | refine blk_drewN ?_ _ | refine blk_drew ?_ | refine blk_alloc ?_ _)); refine blk_put (cs := #[.int .i64 t332, .int .i64 0, .int .i64 0, .string (⟨#[]⟩ : ByteArray), .int .i64 0]) ?_ 1 _ rfl; (with_reducible repeat (first | refine blk_drewN ?_ _ | refine blk_drew ?_ | refine blk_alloc ?_ _)); refine blk_put (cs := #[.int .i64 0, .int .i64 0, .int .i64 0, .string (⟨#[]⟩ : ByteArray), .int .i64 0]) ?_ 0 _ rfl; (with_reducible repeat (first | refine blk_drewN ?_ _ | refine blk_drew ?_ | refine blk_alloc ?_ _)); exact BK338.out))⟩; have n2_ : Aside0 (Below w.heap.size w w54) := ⟨(by rw [hw]; exact (by repeat (first | (with_reducible first | exact HB.out | apply below_alloc | apply pw_below_drewN | apply below_drew1 | refine below_set ?_ GE338.out) | exact HB.out)))⟩; clear hw; clear HO331; clear BK338; clear HB; have HO331 := n0_; have BK338 := n1_; have HB := n2_; clear n0_ n1_ n2_; have q55 : ((ji7) : Int) ≤ ((t329.length : Int) : Int) := of_decide_eq_true (by first | (with_reducible assumption) | assumption); obtain ⟨i055, hi055, _, hsz55, _⟩ := info_parts info5; have hroom55 : t329.length ≤ co50 := (Kd.V_reads' HO331.out).2.1; have hC55 : Kd.F (Kd.int .u8) _ _ Ao50 t329.length t329 := (Kd.V_at (base := w.heap.size) HO331.out).2.2; have q055 : (0 : Int) ≤ ((ji7) : Int) := of_decide_eq_true (by first | (with_reducible assumption) | assumption); have hcut55 := cut_from (P := Tryd.prog) 22 5 .i64 Tryd.underlying22 hi055 1 hsz55 Ao50 t329.length co50 (ji7) q055 q55; have hr55 := Kd.F_cut (m := ((ji7) : Int).toNat) (c := co50) hC55 (by omega) hroom55; obtain ⟨A55, hA55⟩ : ∃ A1, A1 = (if co50 = ((ji7) : Int).toNat then Ao50 else (Ao50 : Option Addr).map (·.add (((ji7) : Int).toNat * 1))) := ⟨_, rfl⟩; obtain ⟨c55, hc55⟩ : ∃ c1, c1 = co50 - ((ji7) : Int).toNat := ⟨_, rfl⟩; have hy55 : y339.length = t329.length - ((ji7) : Int).toNat := (by rw [Ny339.out, List.length_drop] <;> omega); rw [show (t329).drop ((ji7) : Int).toNat = y339 from Ny339.out.symm] at hr55; replace hr55 : Kd.F (Kd.int .u8) _ _ A55 y339.length y339 := (by rw [hA55]; exact hr55); rw [← hy55, ← hA55, ← hc55] at hcut55; have HO343 := Aside0.mk (show Kd.V (Kd.int .u8) 5 _ w.heap.size _ (.slice A55 y339.length c55) y339 from Kd.V_mk (by rw [hy55, hc55]; exact Nat.sub_le_sub_right hroom55 _) hr55); have HC343 := Aside0.mk (show y339.length ≤ c55 from by rw [hy55, hc55]; exact Nat.sub_le_sub_right hroom55 _); clear hr55 hC55 hroom55 hi055 hsz55 hc55; have KY55 := Aside0.mk hy55; have KA55 := Aside0.mk hA55; clear hy55 hA55; replace q55 := eq_true q55) | (go_at_call 13; (with_reducible refine (layout_Skip.calls k _ _ y339 t344 t345 _ ?side1 ?side2 ?side3 A10.out).mono ?_); (case side1 => exact Gl.below HG.out (by repeat (first | (with_reducible first | exact HB.out | apply below_alloc | apply pw_below_drewN | apply below_drew1 | refine below_set ?_ GE338.out) | exact HB.out))); (case side2 => repeat (first | exact (Kd.V_reads' HO343.out).2.2 | (with_reducible refine Kd.C_alloc ?_ _) | (with_reducible refine Kd.C_drewN ?_ _) | (with_reducible refine Kd.C_drew ?_))); (case side3 => exact (Kd.V_reads' HO343.out).2.1); rintro e w56 ⟨rfl, hb⟩; have n0_ := Aside0.mk (Kd.V_below (by (with_reducible repeat (first | apply Kd.V_alloc | apply Kd.V_drewN | apply Kd.V_drew)); exact HO331.out) hb); have n1_ := Aside0.mk (Kd.V_below (by (with_reducible repeat (first | apply Kd.V_alloc | apply Kd.V_drewN | apply Kd.V_drew)); exact HO343.out) hb); have n2_ := Aside0.mk (blk_below (g := gb338) (o := .cells #[.int .i64 t332, .int .i64 t333, .int .i64 t334, .string t335, .int .i64 t336] 27 (0, 0)) (by (with_reducible repeat (first | refine blk_drewN ?_ _ | refine blk_drew ?_ | refine blk_alloc ?_ _)); exact BK338.out) hb); have n3_ := Aside0.mk (below_step (by repeat (first | (with_reducible first | exact HB.out | apply below_alloc | apply pw_below_drewN | apply below_drew1 | refine below_set ?_ GE338.out) | exact HB.out)) hb); clear HO331; clear HO343; clear BK338; clear HB; have HO331 := n0_; have HO343 := n1_; have BK338 := n2_; have HB := n3_; clear n0_ n1_ n2_ n3_; (try clear hb); (try clear hb2); (try clear hk); (try clear hi)))
     repeat (go_quiet (first | (go_at_call 9; (with_reducible refine (tmesislaw06_shown.calls k  t328 _ ?side1 A3.out).mono ?_); (case side1 => exact Gl.below HG.out (by repeat (first | (with_reducible first | exact HB.out | apply below_alloc | apply pw_below_drewN | apply below_drew1) | exact HB.out))); rintro e w48 ⟨rfl, hb⟩; have n0_ := Aside0.mk (below_step (by repeat (first | (with_reducible first | exact HB.out | apply below_alloc | apply pw_below_drewN | apply below_drew1) | exact HB.out)) hb); clear HB; have HB := n0_; clear n0_; (try clear hb); (try clear hb2); (try clear hk); (try clear hi)) | (go_at_call 10; (with_reducible refine (tmesislaw06_few.calls (fun k_ => k_ < w.heap.size) _ _ l0 t329 _ ?side1 A4.out).mono ?_); (case side1 => exact Kd.V_mk HC0.out (Kd.F_below (Kd.C_F (Kd.heap_int .u8) HR0.out) (by repeat (first | (with_reducible first | exact HB.out | apply below_alloc | apply pw_below_drewN | apply below_drew1) | exact HB.out)))); rintro e w49 ⟨v330, rfl, ho0, hb⟩; have n0_ := Aside0.mk (Kd.V_lower (Kd.V_mono (ok' := fun k_ => True) ho0 (fun k_ hk_ => trivial)) (below_size (by repeat (first | (with_reducible first | exact HB.out | apply below_alloc | apply pw_below_drewN | apply below_drew1) | exact HB.out)))); have n1_ := Aside0.mk (below_step (by repeat (first | (with_reducible first | exact HB.out | apply below_alloc | apply pw_below_drewN | apply below_drew1) | exact HB.out)) hb); clear HB; have HO331 := n0_; have HB := n1_; clear n0_ n1_; (try clear hb); (try clear hb2); (try clear hk); (try clear hi); (try clear ho0); obtain ⟨Ao50, co50, eo50⟩ := Kd.V_slice HO331.out; subst eo50) | (go_at_call 11; (with_reducible refine (token_Next.calls k _ _ t329 ji7 t332 t333 t334 t335 t336 false _ ?side1 ?side2 ?side3 A6.out).mono ?_); (case side1 => exact Gl.below HG.out (by repeat (first | (with_reducible first | exact HB.out | apply below_alloc | apply pw_below_drewN | apply below_drew1) | exact HB.out))); (case side2 => repeat (first | exact (Kd.V_reads' HO331.out).2.2 | (with_reducible refine Kd.C_alloc ?_ _) | (with_reducible refine Kd.C_drewN ?_ _) | (with_reducible refine Kd.C_drew ?_))); (case side3 => exact (Kd.V_reads' HO331.out).2.1); rintro e w51 ⟨rfl, hb⟩; have n0_ := Aside0.mk (Kd.V_below (by (with_reducible repeat (first | apply Kd.V_alloc | apply Kd.V_drewN | apply Kd.V_drew)); exact HO331.out) hb); have n1_ := Aside0.mk (below_step (by repeat (first | (with_reducible first | exact HB.out | apply below_alloc | apply pw_below_drewN | apply below_drew1) | exact HB.out)) hb); clear HO331; clear HB; have HO331 := n0_; have HB := n1_; clear n0_ n1_; (try clear hb); (try clear hb2); (try clear hk); (try clear hi)) | ((with_reducible refine gate_dst (N := 8) rfl ?_); (try (refine gate_guard (by rfl) ?_; dsimp only)); refine box_event ?hg (N := 8) ?hd (cs := #[.int .i64 0, .int .i64 0, .int .i64 0, .string (⟨#[]⟩ : ByteArray), .int .i64 0]) (t := 27) ?hr ?_; (case hd => rfl); (case hg => rfl); (case hr => first | (go_simp; done) | (go_simp; rfl)); intro gb338 hg w52 hbox hb; have n0_ := Aside0.mk (Kd.V_below (Kd.V_elderB (by (with_reducible repeat (first | apply Kd.V_alloc | apply Kd.V_drewN | apply Kd.V_drew)); exact HO331.out) gb338 (Nat.le_of_eq hg.symm)) hb); have n1_ := Aside0.mk (below_step (by repeat (first | (with_reducible first | exact HB.out | apply below_alloc | apply pw_below_drewN | apply below_drew1) | exact HB.out)) hb); have n2_ := Aside0.mk (hbox); have n3_ := Aside0.mk ((by rw [hg]; exact (below_size (by repeat (first | (with_reducible first | exact HB.out | apply below_alloc | apply pw_below_drewN | apply below_drew1) | exact HB.out))) : w.heap.size ≤ gb338)); have n4_ := Aside0.mk ((by rw [hg]; exact (below_size (by repeat (first | (with_reducible first | exact HB.out | apply below_alloc | apply pw_below_drewN | apply below_drew1) | exact HB.out))) : w.heap.size ≤ gb338)); clear HO331; clear HB; have HO331 := n0_; have HB := n1_; have BK338 := n2_; have GW338 := n3_; have GE338 := n4_; clear n0_ n1_ n2_ n3_ n4_; clear hb hbox hg; have hcz53_0 : w52.cell? ⟨gb338, 0, none⟩ = some (.int .i64 0) := (blk_cell BK338.out 0).trans rfl; have hcz53_1 : w52.cell? ⟨gb338, 1, none⟩ = some (.int .i64 0) := (blk_cell BK338.out 1).trans rfl; have hcz53_2 : w52.cell? ⟨gb338, 2, none⟩ = some (.int .i64 0) := (blk_cell BK338.out 2).trans rfl; have hcz53_3 : w52.cell? ⟨gb338, 3, none⟩ = some (.string (⟨#[]⟩ : ByteArray)) := (blk_cell BK338.out 3).trans rfl; have hcz53_4 : w52.cell? ⟨gb338, 4, none⟩ = some (.int .i64 0) := (blk_cell BK338.out 4).trans rfl; have hfz53_0 := blk_frozen BK338.out 0; have hfz53_1 := blk_frozen BK338.out 1; have hfz53_2 := blk_frozen BK338.out 2; have hfz53_3 := blk_frozen BK338.out 3; have hfz53_4 := blk_frozen BK338.out 4) | ((with_reducible refine gate_store (t := 27) (p := 8) rfl ?_); (try (rw [drewN_self w52]; generalize hq_ : World.drewN w52 _ = w52; have n0_ := Aside0.mk (Kd.V_at hq_ HO331.out); have n1_ := Aside0.mk (blk_at hq_ BK338.out); have n2_ := Aside0.mk (below_at hq_ HB.out); clear hq_ HO331 BK338 HB; have HO331 := n0_; have BK338 := n1_; have HB := n2_; clear n0_ n1_ n2_)); refine store_event (t := 27) (p := 8) (v := ?vo_w54) (w1 := (((((w52.setCell ⟨gb338, 0, none⟩ (.int .i64 t332)).setCell ⟨gb338, 1, none⟩ (.int .i64 t333)).setCell ⟨gb338, 2, none⟩ (.int .i64 t334)).setCell ⟨gb338, 3, none⟩ (.string t335)).setCell ⟨gb338, 4, none⟩ (.int .i64 t336))) ?hg ?ho ?hn ?hr ?_; (case ho => rfl); (case hg => rfl); (case hn => rfl); (case hr => first | (go_simp; done) | (go_simp; rfl)); intro w54 hw; have n0_ : Aside0 (Kd.V (Kd.int .u8) 5 w54 w.heap.size (fun k_ => k_ ≠ gb338) (.slice Ao50 t329.length co50) t329) := ⟨(by rw [hw]; exact (by (with_reducible repeat (first | apply Kd.V_alloc | apply Kd.V_drewN | apply Kd.V_drew)); exact Kd.V_mono (Kd.V_far (p := ⟨gb338, 4, none⟩) (Kd.V_far (p := ⟨gb338, 3, none⟩) (Kd.V_far (p := ⟨gb338, 2, none⟩) (Kd.V_far (p := ⟨gb338, 1, none⟩) (Kd.V_far (p := ⟨gb338, 0, none⟩) (Kd.V_mono HO331.out (fun k_ hk => (⟨hk, hk.2⟩ : _ ∧ k_ ≠ gb338))) (fun _ hk => hk.2) (.int .i64 t332)) (fun _ hk => hk.2) (.int .i64 t333)) (fun _ hk => hk.2) (.int .i64 t334)) (fun _ hk => hk.2) (.string t335)) (fun _ hk => hk.2) (.int .i64 t336)) (fun _ hk => hk.1.2)))⟩; have n1_ : Aside0 (w54.heap[gb338]? = some (.cells #[.int .i64 t332, .int .i64 t333, .int .i64 t334, .string t335, .int .i64 t336] 27 (0, 0))) := ⟨(by rw [hw]; exact (by (with_reducible repeat (first | refine blk_drewN ?_ _ | refine blk_drew ?_ | refine blk_alloc ?_ _)); refine blk_put (cs := #[.int .i64 t332, .int .i64 t333, .int .i64 t334, .string t335, .int .i64 0]) ?_ 4 _ rfl; (with_reducible repeat (first | refine blk_drewN ?_ _ | refine blk_drew ?_ | refine blk_alloc ?_ _)); refine blk_put (cs := #[.int .i64 t332, .int .i64 t333, .int .i64 t334, .string (⟨#[]⟩ : ByteArray), .int .i64 0]) ?_ 3 _ rfl; (with_reducible repeat (first | refine blk_drewN ?_ _ | refine blk_drew ?_ | refine blk_alloc ?_ _)); refine blk_put (cs := #[.int .i64 t332, .int .i64 t333, .int .i64 0, .string (⟨#[]⟩ : ByteArray), .int .i64 0]) ?_ 2 _ rfl; (with_reducible repeat (first | refine blk_drewN ?_ _ | refine blk_drew ?_ | refine blk_alloc ?_ _)); refine blk_put (cs := #[.int .i64 t332, .int .i64 0, .int .i64 0, .string (⟨#[]⟩ : ByteArray), .int .i64 0]) ?_ 1 _ rfl; (with_reducible repeat (first | refine blk_drewN ?_ _ | refine blk_drew ?_ | refine blk_alloc ?_ _)); refine blk_put (cs := #[.int .i64 0, .int .i64 0, .int .i64 0, .string (⟨#[]⟩ : ByteArray), .int .i64 0]) ?_ 0 _ rfl; (with_reducible repeat (first | refine blk_drewN ?_ _ | refine blk_drew ?_ | refine blk_alloc ?_ _)); exact BK338.out))⟩; have n2_ : Aside0 (Below w.heap.size w w54) := ⟨(by rw [hw]; exact (by repeat (first | (with_reducible first | exact HB.out | apply below_alloc | apply pw_below_drewN | apply below_drew1 | refine below_set ?_ GE338.out) | exact HB.out)))⟩; clear hw; clear HO331; clear BK338; clear HB; have HO331 := n0_; have BK338 := n1_; have HB := n2_; clear n0_ n1_ n2_; have q55 : ((ji7) : Int) ≤ ((t329.length : Int) : Int) := of_decide_eq_true (by first | (with_reducible assumption) | assumption); obtain ⟨i055, hi055, _, hsz55, _⟩ := info_parts info5; have hroom55 : t329.length ≤ co50 := (Kd.V_reads' HO331.out).2.1; have hC55 : Kd.F (Kd.int .u8) _ _ Ao50 t329.length t329 := (Kd.V_at (base := w.heap.size) HO331.out).2.2; have q055 : (0 : Int) ≤ ((ji7) : Int) := of_decide_eq_true (by first | (with_reducible assumption) | assumption); have hcut55 := cut_from (P := Tryd.prog) 22 5 .i64 Tryd.underlying22 hi055 1 hsz55 Ao50 t329.length co50 (ji7) q055 q55; have hr55 := Kd.F_cut (m := ((ji7) : Int).toNat) (c := co50) hC55 (by omega) hroom55; obtain ⟨A55, hA55⟩ : ∃ A1, A1 = (if co50 = ((ji7) : Int).toNat then Ao50 else (Ao50 : Option Addr).map (·.add (((ji7) : Int).toNat * 1))) := ⟨_, rfl⟩; obtain ⟨c55, hc55⟩ : ∃ c1, c1 = co50 - ((ji7) : Int).toNat := ⟨_, rfl⟩; have hy55 : y339.length = t329.length - ((ji7) : Int).toNat := (by rw [Ny339.out, List.length_drop] <;> omega); rw [show (t329).drop ((ji7) : Int).toNat = y339 from Ny339.out.symm] at hr55; replace hr55 : Kd.F (Kd.int .u8) _ _ A55 y339.length y339 := (by rw [hA55]; exact hr55); rw [← hy55, ← hA55, ← hc55] at hcut55; have HO343 := Aside0.mk (show Kd.V (Kd.int .u8) 5 _ w.heap.size _ (.slice A55 y339.length c55) y339 from Kd.V_mk (by rw [hy55, hc55]; exact Nat.sub_le_sub_right hroom55 _) hr55); have HC343 := Aside0.mk (show y339.length ≤ c55 from by rw [hy55, hc55]; exact Nat.sub_le_sub_right hroom55 _); clear hr55 hC55 hroom55 hi055 hsz55 hc55; have KY55 := Aside0.mk hy55; have KA55 := Aside0.mk hA55; clear hy55 hA55; replace q55 := eq_true q55) | (go_at_call 13; (with_reducible refine (layout_Skip.calls k _ _ y339 t344 t345 _ ?side1 ?side2 ?side3 A10.out).mono ?_); (case side1 => exact Gl.below HG.out (by repeat (first | (with_reducible first | exact HB.out | apply below_alloc | apply pw_below_drewN | apply below_drew1 | refine below_set ?_ GE338.out) | exact HB.out))); (case side2 => repeat (first | exact (Kd.V_reads' HO343.out).2.2 | (with_reducible refine Kd.C_alloc ?_ _) | (with_reducible refine Kd.C_drewN ?_ _) | (with_reducible refine Kd.C_drew ?_))); (case side3 => exact (Kd.V_reads' HO343.out).2.1); rintro e w56 ⟨rfl, hb⟩; have n0_ := Aside0.mk (Kd.V_below (by (with_reducible repeat (first | apply Kd.V_alloc | apply Kd.V_drewN | apply Kd.V_drew)); exact HO331.out) hb); have n1_ := Aside0.mk (Kd.V_below (by (with_reducible repeat (first | apply Kd.V_alloc | apply Kd.V_drewN | apply Kd.V_drew)); exact HO343.out) hb); have n2_ := Aside0.mk (blk_below (g := gb338) (o := .cells #[.int .i64 t332, .int .i64 t333, .int .i64 t334, .string t335, .int .i64 t336] 27 (0, 0)) (by (with_reducible repeat (first | refine blk_drewN ?_ _ | refine blk_drew ?_ | refine blk_alloc ?_ _)); exact BK338.out) hb); have n3_ := Aside0.mk (below_step (by repeat (first | (with_reducible first | exact HB.out | apply below_alloc | apply pw_below_drewN | apply below_drew1 | refine below_set ?_ GE338.out) | exact HB.out)) hb); clear HO331; clear HO343; clear BK338; clear HB; have HO331 := n0_; have HO343 := n1_; have BK338 := n2_; have HB := n3_; clear n0_ n1_ n2_ n3_; (try clear hb); (try clear hb2); (try clear hk); (try clear hi))); go_upto_region 7 with (first | (go_at_call 9; (with_reducible refine (tmesislaw06_shown.calls k  t328 _ ?side1 A3.out).mono ?_); (case side1 => exact Gl.below HG.out (by repeat (first | (with_reducible first | exact HB.out | apply below_alloc | apply pw_below_drewN | apply below_drew1) | exact HB.out))); rintro e w48 ⟨rfl, hb⟩; have n0_ := Aside0.mk (below_step (by repeat (first | (with_reducible first | exact HB.out | apply below_alloc | apply pw_below_drewN | apply below_drew1) | exact HB.out)) hb); clear HB; have HB := n0_; clear n0_; (try clear hb); (try clear hb2); (try clear hk); (try clear hi)) | (go_at_call 10; (with_reducible refine (tmesislaw06_few.calls (fun k_ => k_ < w.heap.size) _ _ l0 t329 _ ?side1 A4.out).mono ?_); (case side1 => exact Kd.V_mk HC0.out (Kd.F_below (Kd.C_F (Kd.heap_int .u8) HR0.out) (by repeat (first | (with_reducible first | exact HB.out | apply below_alloc | apply pw_below_drewN | apply below_drew1) | exact HB.out)))); rintro e w49 ⟨v330, rfl, ho0, hb⟩; have n0_ := Aside0.mk (Kd.V_lower (Kd.V_mono (ok' := fun k_ => True) ho0 (fun k_ hk_ => trivial)) (below_size (by repeat (first | (with_reducible first | exact HB.out | apply below_alloc | apply pw_below_drewN | apply below_drew1) | exact HB.out)))); have n1_ := Aside0.mk (below_step (by repeat (first | (with_reducible first | exact HB.out | apply below_alloc | apply pw_below_drewN | apply below_drew1) | exact HB.out)) hb); clear HB; have HO331 := n0_; have HB := n1_; clear n0_ n1_; (try clear hb); (try clear hb2); (try clear hk); (try clear hi); (try clear ho0); obtain ⟨Ao50, co50, eo50⟩ := Kd.V_slice HO331.out; subst eo50) | (go_at_call 11; (with_reducible refine (token_Next.calls k _ _ t329 ji7 t332 t333 t334 t335 t336 false _ ?side1 ?side2 ?side3 A6.out).mono ?_); (case side1 => exact Gl.below HG.out (by repeat (first | (with_reducible first | exact HB.out | apply below_alloc | apply pw_below_drewN | apply below_drew1) | exact HB.out))); (case side2 => repeat (first | exact (Kd.V_reads' HO331.out).2.2 | (with_reducible refine Kd.C_alloc ?_ _) | (with_reducible refine Kd.C_drewN ?_ _) | (with_reducible refine Kd.C_drew ?_))); (case side3 => exact (Kd.V_reads' HO331.out).2.1); rintro e w51 ⟨rfl, hb⟩; have n0_ := Aside0.mk (Kd.V_below (by (with_reducible repeat (first | apply Kd.V_alloc | apply Kd.V_drewN | apply Kd.V_drew)); exact HO331.out) hb); have n1_ := Aside0.mk (below_step (by repeat (first | (with_reducible first | exact HB.out | apply below_alloc | apply pw_below_drewN | apply below_drew1) | exact HB.out)) hb); clear HO331; clear HB; have HO331 := n0_; have HB := n1_; clear n0_ n1_; (try clear hb); (try clear hb2); (try clear hk); (try clear hi)) | ((with_reducible refine gate_dst (N := 8) rfl ?_); (try (refine gate_guard (by rfl) ?_; dsimp only)); refine box_event ?hg (N := 8) ?hd (cs := #[.int .i64 0, .int .i64 0, .int .i64 0, .string (⟨#[]⟩ : ByteArray), .int .i64 0]) (t := 27) ?hr ?_; (case hd => rfl); (case hg => rfl); (case hr => first | (go_simp; done) | (go_simp; rfl)); intro gb338 hg w52 hbox hb; have n0_ := Aside0.mk (Kd.V_below (Kd.V_elderB (by (with_reducible repeat (first | apply Kd.V_alloc | apply Kd.V_drewN | apply Kd.V_drew)); exact HO331.out) gb338 (Nat.le_of_eq hg.symm)) hb); have n1_ := Aside0.mk (below_step (by repeat (first | (with_reducible first | exact HB.out | apply below_alloc | apply pw_below_drewN | apply below_drew1) | exact HB.out)) hb); have n2_ := Aside0.mk (hbox); have n3_ := Aside0.mk ((by rw [hg]; exact (below_size (by repeat (first | (with_reducible first | exact HB.out | apply below_alloc | apply pw_below_drewN | apply below_drew1) | exact HB.out))) : w.heap.size ≤ gb338)); have n4_ := Aside0.mk ((by rw [hg]; exact (below_size (by repeat (first | (with_reducible first | exact HB.out | apply below_alloc | apply pw_below_drewN | apply below_drew1) | exact HB.out))) : w.heap.size ≤ gb338)); clear HO331; clear HB; have HO331 := n0_; have HB := n1_; have BK338 := n2_; have GW338 := n3_; have GE338 := n4_; clear n0_ n1_ n2_ n3_ n4_; clear hb hbox hg; have hcz53_0 : w52.cell? ⟨gb338, 0, none⟩ = some (.int .i64 0) := (blk_cell BK338.out 0).trans rfl; have hcz53_1 : w52.cell? ⟨gb338, 1, none⟩ = some (.int .i64 0) := (blk_cell BK338.out 1).trans rfl; have hcz53_2 : w52.cell? ⟨gb338, 2, none⟩ = some (.int .i64 0) := (blk_cell BK338.out 2).trans rfl; have hcz53_3 : w52.cell? ⟨gb338, 3, none⟩ = some (.string (⟨#[]⟩ : ByteArray)) := (blk_cell BK338.out 3).trans rfl; have hcz53_4 : w52.cell? ⟨gb338, 4, none⟩ = some (.int .i64 0) := (blk_cell BK338.out 4).trans rfl; have hfz53_0 := blk_frozen BK338.out 0; have hfz53_1 := blk_frozen BK338.out 1; have hfz53_2 := blk_frozen BK338.out 2; have hfz53_3 := blk_frozen BK338.out 3; have hfz53_4 := blk_frozen BK338.out 4) | ((with_reducible refine gate_store (t := 27) (p := 8) rfl ?_); (try (rw [drewN_self w52]; generalize hq_ : World.drewN w52 _ = w52; have n0_ := Aside0.mk (Kd.V_at hq_ HO331.out); have n1_ := Aside0.mk (blk_at hq_ BK338.out); have n2_ := Aside0.mk (below_at hq_ HB.out); clear hq_ HO331 BK338 HB; have HO331 := n0_; have BK338 := n1_; have HB := n2_; clear n0_ n1_ n2_)); refine store_event (t := 27) (p := 8) (v := ?vo_w54) (w1 := (((((w52.setCell ⟨gb338, 0, none⟩ (.int .i64 t332)).setCell ⟨gb338, 1, none⟩ (.int .i64 t333)).setCell ⟨gb338, 2, none⟩ (.int .i64 t334)).setCell ⟨gb338, 3, none⟩ (.string t335)).setCell ⟨gb338, 4, none⟩ (.int .i64 t336))) ?hg ?ho ?hn ?hr ?_; (case ho => rfl); (case hg => rfl); (case hn => rfl); (case hr => first | (go_simp; done) | (go_simp; rfl)); intro w54 hw; have n0_ : Aside0 (Kd.V (Kd.int .u8) 5 w54 w.heap.size (fun k_ => k_ ≠ gb338) (.slice Ao50 t329.length co50) t329) := ⟨(by rw [hw]; exact (by (with_reducible repeat (first | apply Kd.V_alloc | apply Kd.V_drewN | apply Kd.V_drew)); exact Kd.V_mono (Kd.V_far (p := ⟨gb338, 4, none⟩) (Kd.V_far (p := ⟨gb338, 3, none⟩) (Kd.V_far (p := ⟨gb338, 2, none⟩) (Kd.V_far (p := ⟨gb338, 1, none⟩) (Kd.V_far (p := ⟨gb338, 0, none⟩) (Kd.V_mono HO331.out (fun k_ hk => (⟨hk, hk.2⟩ : _ ∧ k_ ≠ gb338))) (fun _ hk => hk.2) (.int .i64 t332)) (fun _ hk => hk.2) (.int .i64 t333)) (fun _ hk => hk.2) (.int .i64 t334)) (fun _ hk => hk.2) (.string t335)) (fun _ hk => hk.2) (.int .i64 t336)) (fun _ hk => hk.1.2)))⟩; have n1_ : Aside0 (w54.heap[gb338]? = some (.cells #[.int .i64 t332, .int .i64 t333, .int .i64 t334, .string t335, .int .i64 t336] 27 (0, 0))) := ⟨(by rw [hw]; exact (by (with_reducible repeat (first | refine blk_drewN ?_ _ | refine blk_drew ?_ | refine blk_alloc ?_ _)); refine blk_put (cs := #[.int .i64 t332, .int .i64 t333, .int .i64 t334, .string t335, .int .i64 0]) ?_ 4 _ rfl; (with_reducible repeat (first | refine blk_drewN ?_ _ | refine blk_drew ?_ | refine blk_alloc ?_ _)); refine blk_put (cs := #[.int .i64 t332, .int .i64 t333, .int .i64 t334, .string (⟨#[]⟩ : ByteArray), .int .i64 0]) ?_ 3 _ rfl; (with_reducible repeat (first | refine blk_drewN ?_ _ | refine blk_drew ?_ | refine blk_alloc ?_ _)); refine blk_put (cs := #[.int .i64 t332, .int .i64 t333, .int .i64 0, .string (⟨#[]⟩ : ByteArray), .int .i64 0]) ?_ 2 _ rfl; (with_reducible repeat (first | refine blk_drewN ?_ _ | refine blk_drew ?_ | refine blk_alloc ?_ _)); refine blk_put (cs := #[.int .i64 t332, .int .i64 0, .int .i64 0, .string (⟨#[]⟩ : ByteArray), .int .i64 0]) ?_ 1 _ rfl; (with_reducible repeat (first | refine blk_drewN ?_ _ | refine blk_drew ?_ | refine blk_alloc ?_ _)); refine blk_put (cs := #[.int .i64 0, .int .i64 0, .int .i64 0, .string (⟨#[]⟩ : ByteArray), .int .i64 0]) ?_ 0 _ rfl; (with_reducible repeat (first | refine blk_drewN ?_ _ | refine blk_drew ?_ | refine blk_alloc ?_ _)); exact BK338.out))⟩; have n2_ : Aside0 (Below w.heap.size w w54) := ⟨(by rw [hw]; exact (by repeat (first | (with_reducible first | exact HB.out | apply below_alloc | apply pw_below_drewN | apply below_drew1 | refine below_set ?_ GE338.out) | exact HB.out)))⟩; clear hw; clear HO331; clear BK338; clear HB; have HO331 := n0_; have BK338 := n1_; have HB := n2_; clear n0_ n1_ n2_; have q55 : ((ji7) : Int) ≤ ((t329.length : Int) : Int) := of_decide_eq_true (by first | (with_reducible assumption) | assumption); obtain ⟨i055, hi055, _, hsz55, _⟩ := info_parts info5; have hroom55 : t329.length ≤ co50 := (Kd.V_reads' HO331.out).2.1; have hC55 : Kd.F (Kd.int .u8) _ _ Ao50 t329.length t329 := (Kd.V_at (base := w.heap.size) HO331.out).2.2; have q055 : (0 : Int) ≤ ((ji7) : Int) := of_decide_eq_true (by first | (with_reducible assumption) | assumption); have hcut55 := cut_from (P := Tryd.prog) 22 5 .i64 Tryd.underlying22 hi055 1 hsz55 Ao50 t329.length co50 (ji7) q055 q55; have hr55 := Kd.F_cut (m := ((ji7) : Int).toNat) (c := co50) hC55 (by omega) hroom55; obtain ⟨A55, hA55⟩ : ∃ A1, A1 = (if co50 = ((ji7) : Int).toNat then Ao50 else (Ao50 : Option Addr).map (·.add (((ji7) : Int).toNat * 1))) := ⟨_, rfl⟩; obtain ⟨c55, hc55⟩ : ∃ c1, c1 = co50 - ((ji7) : Int).toNat := ⟨_, rfl⟩; have hy55 : y339.length = t329.length - ((ji7) : Int).toNat := (by rw [Ny339.out, List.length_drop] <;> omega); rw [show (t329).drop ((ji7) : Int).toNat = y339 from Ny339.out.symm] at hr55; replace hr55 : Kd.F (Kd.int .u8) _ _ A55 y339.length y339 := (by rw [hA55]; exact hr55); rw [← hy55, ← hA55, ← hc55] at hcut55; have HO343 := Aside0.mk (show Kd.V (Kd.int .u8) 5 _ w.heap.size _ (.slice A55 y339.length c55) y339 from Kd.V_mk (by rw [hy55, hc55]; exact Nat.sub_le_sub_right hroom55 _) hr55); have HC343 := Aside0.mk (show y339.length ≤ c55 from by rw [hy55, hc55]; exact Nat.sub_le_sub_right hroom55 _); clear hr55 hC55 hroom55 hi055 hsz55 hc55; have KY55 := Aside0.mk hy55; have KA55 := Aside0.mk hA55; clear hy55 hA55; replace q55 := eq_true q55) | (go_at_call 13; (with_reducible refine (layout_Skip.calls k _ _ y339 t344 t345 _ ?side1 ?side2 ?side3 A10.out).mono ?_); (case side1 => exact Gl.below HG.out (by repeat (first | (with_reducible first | exact HB.out | apply below_alloc | apply pw_below_drewN | apply below_drew1 | refine below_set ?_ GE338.out) | exact HB.out))); (case side2 => repeat (first | exact (Kd.V_reads' HO343.out).2.2 | (with_reducible refine Kd.C_alloc ?_ _) | (with_reducible refine Kd.C_drewN ?_ _) | (with_reducible refine Kd.C_drew ?_))); (case side3 => exact (Kd.V_reads' HO343.out).2.1); rintro e w56 ⟨rfl, hb⟩; have n0_ := Aside0.mk (Kd.V_below (by (with_reducible repeat (first | apply Kd.V_alloc | apply Kd.V_drewN | apply Kd.V_drew)); exact HO331.out) hb); have n1_ := Aside0.mk (Kd.V_below (by (with_reducible repeat (first | apply Kd.V_alloc | apply Kd.V_drewN | apply Kd.V_drew)); exact HO343.out) hb); have n2_ := Aside0.mk (blk_below (g := gb338) (o := .cells #[.int .i64 t332, .int .i64 t333, .int .i64 t334, .string t335, .int .i64 t336] 27 (0, 0)) (by (with_reducible repeat (first | refine blk_drewN ?_ _ | refine blk_drew ?_ | refine blk_alloc ?_ _)); exact BK338.out) hb); have n3_ := Aside0.mk (below_step (by repeat (first | (with_reducible first | exact HB.out | apply below_alloc | apply pw_below_drewN | apply below_drew1 | refine below_set ?_ GE338.out) | exact HB.out)) hb); clear HO331; clear HO343; clear BK338; clear HB; have HO331 := n0_; have HO343 := n1_; have BK338 := n2_; have HB := n3_; clear n0_ n1_ n2_ n3_; (try clear hb); (try clear hb2); (try clear hk); (try clear hi))))
     (try simp only [Act.put, List.setIfInBounds_toArray, List.set_cons_zero, List.set_cons_succ])
     go_cut [4] (fun v4 wc => ∃ (kq : Nat) (x4_46 : Bool), v4 = .bool x4_46 ∧ Aside0 (tmesislaw06_TokenStands.j0 kq x4_46 = some r) ∧ Aside0 (kq ≤ k) ∧ Aside0 (wc.heap[gb338]? = some (.cells #[.int .i64 t332, .int .i64 t333, .int .i64 t334, .string t335, .int .i64 t336] 27 (0, 0))) ∧ Aside0 (Below w.heap.size w wc))
     case first =>
      have H := HC47.out
      clear HC47
      by_cases c57 : t328 = true
      ·subst c57
       have H1 : (if t345 = 0 then (if t344 = (wrap64 ((t329.length : Int) - (ji7))) then (tmesislaw06_TokenStands.j0 k (t332 == 0 && (t333 == 0 && (t334 == 0 && (t335.toList == ([] : List UInt8) && (t336 == 0)))))) else (tmesislaw06_TokenStands.j0 k false)) else (tmesislaw06_TokenStands.j0 k false)) = some r := by rw [if_pos rfl] at H; exact H
       clear H
       have H := H1
       clear H1
       by_cases c58 : t345 = 0
       ·rw [if_pos c58] at H
        have c58b0 : (t345 == 0) = true := beq_iff_eq.mpr c58
        have c58b1 : (t345 != 0) = false := bne_eq_false_iff_eq.mpr c58
        clear c58
        (first | rw [c58b0] | (simp only [i64_w, i32_w]; rw [c58b0]) | skip)
        by_cases c59 : t344 = (wrap64 ((t329.length : Int) - (ji7)))
        ·rw [if_pos c59] at H
         have c59b0 : (t344 == (wrap64 ((t329.length : Int) - (ji7)))) = true := beq_iff_eq.mpr c59
         have c59b1 : (t344 != (wrap64 ((t329.length : Int) - (ji7)))) = false := bne_eq_false_iff_eq.mpr c59
         clear c59
         have H' := Aside0.mk H
         clear H
         have hcz60_0 : w56.cell? ⟨gb338, 0, none⟩ = some (.int .i64 t332) := (blk_cell BK338.out 0).trans rfl
         have hcz60_1 : w56.cell? ⟨gb338, 1, none⟩ = some (.int .i64 t333) := (blk_cell BK338.out 1).trans rfl
         have hcz60_2 : w56.cell? ⟨gb338, 2, none⟩ = some (.int .i64 t334) := (blk_cell BK338.out 2).trans rfl
         have hcz60_3 : w56.cell? ⟨gb338, 3, none⟩ = some (.string t335) := (blk_cell BK338.out 3).trans rfl
         have hcz60_4 : w56.cell? ⟨gb338, 4, none⟩ = some (.int .i64 t336) := (blk_cell BK338.out 4).trans rfl
         have hfz60_0 := blk_frozen BK338.out 0
         have hfz60_1 := blk_frozen BK338.out 1
         have hfz60_2 := blk_frozen BK338.out 2
         have hfz60_3 := blk_frozen BK338.out 3
         have hfz60_4 := blk_frozen BK338.out 4
         go_wp2
         repeat (go_quiet (fail); try go_wp2)
         go_meet
         case rel => exact ⟨_, ((t332 == 0 && (t333 == 0 && (t334 == 0 && (t335.toList == ([] : List UInt8) && (t336 == 0)))))), (by first | rfl | (simp; done) | (simp [*]; done)), H', ⟨by first | omega | exact Nat.le_refl _⟩, ⟨by (with_reducible repeat (first | refine blk_drewN ?_ _ | refine blk_drew ?_ | refine blk_alloc ?_ _)); exact BK338.out⟩, ⟨by repeat (first | (with_reducible first | exact HB.out | apply below_alloc | apply pw_below_drewN | apply below_drew1 | refine below_set ?_ GE338.out) | exact HB.out)⟩⟩
        ·rw [if_neg c59] at H
         have c59b0 : (t344 == (wrap64 ((t329.length : Int) - (ji7)))) = false := beq_eq_false_iff_ne.mpr c59
         have c59b1 : (t344 != (wrap64 ((t329.length : Int) - (ji7)))) = true := bne_iff_ne.mpr c59
         have H' := Aside0.mk H
         clear H
         go_wp2
         repeat (go_quiet (fail); try go_wp2)
         go_meet
         case rel => exact ⟨_, (false), (by first | rfl | (simp; done) | (simp [*]; done)), H', ⟨by first | omega | exact Nat.le_refl _⟩, ⟨by (with_reducible repeat (first | refine blk_drewN ?_ _ | refine blk_drew ?_ | refine blk_alloc ?_ _)); exact BK338.out⟩, ⟨by repeat (first | (with_reducible first | exact HB.out | apply below_alloc | apply pw_below_drewN | apply below_drew1 | refine below_set ?_ GE338.out) | exact HB.out)⟩⟩
       ·rw [if_neg c58] at H
        have c58b0 : (t345 == 0) = false := beq_eq_false_iff_ne.mpr c58
        have c58b1 : (t345 != 0) = true := bne_iff_ne.mpr c58
        (first | rw [c58b0] | (simp only [i64_w, i32_w]; rw [c58b0]) | skip)
        have H' := Aside0.mk H
        clear H
        go_wp2
        repeat (go_quiet (fail); try go_wp2)
        go_meet
        case rel => exact ⟨_, (false), (by first | rfl | (simp; done) | (simp [*]; done)), H', ⟨by first | omega | exact Nat.le_refl _⟩, ⟨by (with_reducible repeat (first | refine blk_drewN ?_ _ | refine blk_drew ?_ | refine blk_alloc ?_ _)); exact BK338.out⟩, ⟨by repeat (first | (with_reducible first | exact HB.out | apply below_alloc | apply pw_below_drewN | apply below_drew1 | refine below_set ?_ GE338.out) | exact HB.out)⟩⟩
      ·replace c57 := Bool.eq_false_iff.mpr c57
       subst c57
       have H1 : (tmesislaw06_TokenStands.j0 k false) = some r := by rw [if_neg (show ¬ (false = true) by decide)] at H; exact H
       clear H
       have H := H1
       clear H1
       have H' := Aside0.mk H
       clear H
       go_wp2
       repeat (go_quiet (fail); try go_wp2)
       go_meet
       case rel => exact ⟨_, (false), (by first | rfl | (simp; done) | (simp [*]; done)), H', ⟨by first | omega | exact Nat.le_refl _⟩, ⟨by (with_reducible repeat (first | refine blk_drewN ?_ _ | refine blk_drew ?_ | refine blk_alloc ?_ _)); exact BK338.out⟩, ⟨by repeat (first | (with_reducible first | exact HB.out | apply below_alloc | apply pw_below_drewN | apply below_drew1 | refine below_set ?_ GE338.out) | exact HB.out)⟩⟩
     case rest =>
      clear HC47
      try clear c1
      try clear c2
      try clear p2
      try clear q2
      try clear c3
      try clear c4
      try clear q4
      try clear hcv4
      try clear c5
      try clear c5b0
      try clear c5b1
      try clear q5
      try clear p6
      try clear c8
      try clear c8b0
      try clear c8b1
      try clear c9
      try clear c9b0
      try clear c9b1
      try clear c11
      try clear c20
      try clear q20
      try clear c22
      try clear c23
      try clear c23b0
      try clear c23b1
      try clear c24
      try clear c24b0
      try clear c26
      try clear c26b0
      try clear c28
      try clear c28b0
      try clear c30
      try clear c30b0
      try clear c34
      try clear c35
      try clear c35b0
      try clear c35b1
      try clear c39
      try clear c39b0
      try clear c39b1
      try clear c41
      try clear c41b0
      try clear c41b1
      try clear c42
      try clear c42b0
      try clear c42b1
      try clear c43
      try clear c43b0
      try clear c43b1
      try clear c45
      try clear q45
      try clear hcv46
      try clear c55
      try clear q55
      try clear c57
      try clear c58
      try clear c58b0
      try clear c58b1
      try clear c59
      try clear c59b0
      try clear c59b1
      try clear hcz18_0
      try clear hcz18_1
      try clear hcz18_2
      try clear hcz18_3
      try clear hcz18_4
      try clear hcz25_0
      try clear hcz25_1
      try clear hcz25_2
      try clear hcz25_3
      try clear hcz25_4
      try clear hcz27_0
      try clear hcz27_1
      try clear hcz27_2
      try clear hcz27_3
      try clear hcz27_4
      try clear hcz29_0
      try clear hcz29_1
      try clear hcz29_2
      try clear hcz29_3
      try clear hcz29_4
      try clear hcz31_0
      try clear hcz31_1
      try clear hcz31_2
      try clear hcz31_3
      try clear hcz31_4
      try clear hcz32_0
      try clear hcz32_1
      try clear hcz32_2
      try clear hcz32_3
      try clear hcz32_4
      try clear hcz33_0
      try clear hcz33_1
      try clear hcz33_2
      try clear hcz33_3
      try clear hcz33_4
      try clear hcz36_0
      try clear hcz36_1
      try clear hcz36_2
      try clear hcz36_3
      try clear hcz36_4
      try clear hcz38_0
      try clear hcz38_1
      try clear hcz38_2
      try clear hcz38_3
      try clear hcz38_4
      try clear hcz40_0
      try clear hcz40_1
      try clear hcz40_2
      try clear hcz40_3
      try clear hcz40_4
      try clear hcz44_0
      try clear hcz44_1
      try clear hcz44_2
      try clear hcz44_3
      try clear hcz44_4
      try clear hcz53_0
      try clear hcz53_1
      try clear hcz53_2
      try clear hcz53_3
      try clear hcz53_4
      try clear hcz60_0
      try clear hcz60_1
      try clear hcz60_2
      try clear hcz60_3
      try clear hcz60_4
      try clear hfz18_0
      try clear hfz18_1
      try clear hfz18_2
      try clear hfz18_3
      try clear hfz18_4
      try clear hfz25_0
      try clear hfz25_1
      try clear hfz25_2
      try clear hfz25_3
      try clear hfz25_4
      try clear hfz27_0
      try clear hfz27_1
      try clear hfz27_2
      try clear hfz27_3
      try clear hfz27_4
      try clear hfz29_0
      try clear hfz29_1
      try clear hfz29_2
      try clear hfz29_3
      try clear hfz29_4
      try clear hfz31_0
      try clear hfz31_1
      try clear hfz31_2
      try clear hfz31_3
      try clear hfz31_4
      try clear hfz32_0
      try clear hfz32_1
      try clear hfz32_2
      try clear hfz32_3
      try clear hfz32_4
      try clear hfz33_0
      try clear hfz33_1
      try clear hfz33_2
      try clear hfz33_3
      try clear hfz33_4
      try clear hfz36_0
      try clear hfz36_1
      try clear hfz36_2
      try clear hfz36_3
      try clear hfz36_4
      try clear hfz38_0
      try clear hfz38_1
      try clear hfz38_2
      try clear hfz38_3
      try clear hfz38_4
      try clear hfz40_0
      try clear hfz40_1
      try clear hfz40_2
      try clear hfz40_3
      try clear hfz40_4
      try clear hfz44_0
      try clear hfz44_1
      try clear hfz44_2
      try clear hfz44_3
      try clear hfz44_4
      try clear hfz53_0
      try clear hfz53_1
      try clear hfz53_2
      try clear hfz53_3
      try clear hfz53_4
      try clear hfz60_0
      try clear hfz60_1
      try clear hfz60_2
      try clear hfz60_3
      try clear hfz60_4
      try clear p2
      try clear p6
      try clear q020
      try clear q045
      try clear q055
      try clear q2
      try clear q20
      try clear q4
      try clear q45
      try clear q55
      obtain ⟨kq, x4_46, rfl, HA, HJ46, BK338, HB⟩ := hcut
      cases kq with
      | zero => exact absurd HA.out (by simp [tmesislaw06_TokenStands.j0])
      | succ kj46 =>
       have H := HA.out
       clear HA
       simp only [tmesislaw06_TokenStands.j0] at H
       obtain rfl := Option.some.inj H
       go_wp2
       repeat (go_quiet (fail); try go_wp2)
       go_ret
       exact ⟨by first | rfl | (simp [errW_none, errW_some] <;> rfl) | (simp only [← hji7]; first | rfl | (simp [errW_none, errW_some] <;> rfl)) | (simp [*, errW_none, errW_some] <;> rfl), by repeat (first | (with_reducible first | exact HB.out | apply below_alloc | apply pw_below_drewN | apply below_drew1 | refine below_set ?_ GE338.out) | exact HB.out)⟩
   ·rw [if_neg c9] at H
    exact absurd H (by simp)
  ·rw [if_neg c8] at H
   exact absurd H (by simp)
/-- THE ONE PURE STATEMENT of tmesislaw06_TokenStands: yours. -/
def tmesislaw06_TokenStands.Pure : Prop := ∀ (l0 : List Int) (a1 : Int), l0.length ≤ maxLen → l0.length * 1 ≤ 140737488351232 → (∀ x ∈ l0, (Lit.int .u8 x).wf = true) → (Lit.int .u8 a1).wf = true → ∃ k, tmesislaw06_TokenStands.f k l0 a1 = some true
theorem tmesislaw06_TokenStands.walk (P : tmesislaw06_TokenStands.Pure) (a0 : Option Addr) (len0 cap0 : Nat) (z0 : List Int) (a1 : Int) (w : World) (hG : Gl w) (w0 : (a0 = none ∧ len0 = 0 ∧ cap0 = 0 ∧ z0 = []) ∨ ∃ x, a0 = some x ∧ len0 ≤ cap0 ∧ cap0 ≤ maxLen ∧ z0.length = cap0 ∧ (∀ i, i < z0.length → w.cell? (x.add i) = some (.int .u8 (z0.getD i 0))) ∧ ∀ n ∈ z0, (Lit.int .u8 n).wf = true) (y0 : len0 * 1 ≤ 140737488351232) (w1 : (Lit.int .u8 a1).wf = true) :
  Calls Tryd.prog 4 #[.slice a0 len0 cap0, .int .u8 a1] w fun e w' => e = .returned (.bool true) ∧ Below w.heap.size w w' := by
 obtain ⟨l0, rfl, hr0, hm0, hw0, hc0⟩ := ReadsInt.ofRowC w0
 obtain ⟨k, h⟩ := P l0 a1 hm0 y0 hw0 w1
 refine (tmesislaw06_TokenStands.calls k _ _ l0 a1 true w hG (Kd.C_of_reads (d := (0 : Int)) (h1 := fun _ => rfl) hr0) hc0 h).mono ?_
 rintro e w' ⟨rfl, hd⟩
 exact ⟨rfl, hd⟩
end Go.Proofs.YtflekegjmjjdmaaDoor.P
