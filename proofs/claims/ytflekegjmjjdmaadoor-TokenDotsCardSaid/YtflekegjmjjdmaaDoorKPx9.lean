/- Part of the proof: what the theorem needs of this text. -/
import Derived.Test.YtflekegjmjjdmaaDoorKHG
import Derived.Test.YtflekegjmjjdmaaDoorKHTX
import Derived.Test.YtflekegjmjjdmaaDoorKPx0
import Derived.Test.YtflekegjmjjdmaaDoorKPx8
namespace Go.Proofs.YtflekegjmjjdmaaDoor.P
open Go.RowKit Go.Proofs.YtflekegjmjjdmaaDoorW.PrintWords Go.Proofs.YtflekegjmjjdmaaDoorW.PrintLast Go.Proofs.YtflekegjmjjdmaaDoorW.PrintMore
attribute [local go_sem] max2_int min2_int max_two min_two max_three min_three max_four min_four   -- for this text's walks alone
set_option linter.unusedVariables false
set_option linter.unusedSimpArgs false
mutual
def tmesislaw06_TokenDots.j0 : Nat → Bool → Bool → Bool → Bool → Bool → Bool → Int → Int → Int → ByteArray → Int → Int → Int → Int → ByteArray → Int → Int → Int → Int → ByteArray → Int → Int → Int → Int → ByteArray → Int → Option (Bool)
 | 0, _, _, _, _, _, _, _, _, _, _, _, _, _, _, _, _, _, _, _, _, _, _, _, _, _, _ => none
 | k + 1, x5, x7, x9, x11, x13, x14, x206000, x206001, x206002, x206003, x206004, x216000, x216001, x216002, x216003, x216004, x226000, x226001, x226002, x226003, x226004, x236000, x236001, x236002, x236003, x236004 => if x5 = true then (if x7 = true then (if ((x206000 == 7) == x14) = true then (if x14 = true then (if x9 = true then (if x216000 = 7 then (if x11 = true then (if x226000 = 2 then (if x13 = true then (tmesislaw06_TokenDots.j1 k (x236000 == 7)) else (tmesislaw06_TokenDots.j1 k false)) else (tmesislaw06_TokenDots.j1 k false)) else (tmesislaw06_TokenDots.j1 k false)) else (tmesislaw06_TokenDots.j1 k false)) else (tmesislaw06_TokenDots.j1 k false)) else (if x206000 = 2 then (if x9 = true then (if x216000 = 7 then (if x11 = true then (if x226000 = 2 then (if x13 = true then (tmesislaw06_TokenDots.j1 k (x236000 == 7)) else (tmesislaw06_TokenDots.j1 k false)) else (tmesislaw06_TokenDots.j1 k false)) else (tmesislaw06_TokenDots.j1 k false)) else (tmesislaw06_TokenDots.j1 k false)) else (tmesislaw06_TokenDots.j1 k false)) else (tmesislaw06_TokenDots.j1 k false))) else (tmesislaw06_TokenDots.j1 k false)) else (tmesislaw06_TokenDots.j1 k false)) else (tmesislaw06_TokenDots.j1 k false)
def tmesislaw06_TokenDots.j1 : Nat → Bool → Option (Bool)
 | 0, _ => none
 | k + 1, x4 => some x4
end
def tmesislaw06_TokenDots.f (k : Nat) (a0 : Int) (a1 : Int) : Option (Bool) := (tmesislaw06_shown.f k).bind fun t195 => ((token_Next.f k (([46, a0] : List Int)) 0).bind fun bt199 => ((token_Next.f k (([46] : List Int)) 0).bind fun bt209 => ((token_Next.f k (([46, 46, a0] : List Int)) 0).bind fun bt219 => ((token_Next.f k (([a1, 46] : List Int)) 1).bind fun bt229 => (if a0 = 32 then (tmesislaw06_TokenDots.j0 k t195 bt199.2.2.2.2.2 bt209.2.2.2.2.2 bt219.2.2.2.2.2 bt229.2.2.2.2.2 true bt199.1 bt199.2.1 bt199.2.2.1 bt199.2.2.2.1 bt199.2.2.2.2.1 bt209.1 bt209.2.1 bt209.2.2.1 bt209.2.2.2.1 bt209.2.2.2.2.1 bt219.1 bt219.2.1 bt219.2.2.1 bt219.2.2.2.1 bt219.2.2.2.2.1 bt229.1 bt229.2.1 bt229.2.2.1 bt229.2.2.2.1 bt229.2.2.2.2.1) else (if a0 = 9 then (tmesislaw06_TokenDots.j0 k t195 bt199.2.2.2.2.2 bt209.2.2.2.2.2 bt219.2.2.2.2.2 bt229.2.2.2.2.2 true bt199.1 bt199.2.1 bt199.2.2.1 bt199.2.2.2.1 bt199.2.2.2.2.1 bt209.1 bt209.2.1 bt209.2.2.1 bt209.2.2.2.1 bt209.2.2.2.2.1 bt219.1 bt219.2.1 bt219.2.2.1 bt219.2.2.2.1 bt219.2.2.2.2.1 bt229.1 bt229.2.1 bt229.2.2.1 bt229.2.2.2.1 bt229.2.2.2.2.1) else (if a0 = 10 then (tmesislaw06_TokenDots.j0 k t195 bt199.2.2.2.2.2 bt209.2.2.2.2.2 bt219.2.2.2.2.2 bt229.2.2.2.2.2 true bt199.1 bt199.2.1 bt199.2.2.1 bt199.2.2.2.1 bt199.2.2.2.2.1 bt209.1 bt209.2.1 bt209.2.2.1 bt209.2.2.2.1 bt209.2.2.2.2.1 bt219.1 bt219.2.1 bt219.2.2.1 bt219.2.2.2.1 bt219.2.2.2.2.1 bt229.1 bt229.2.1 bt229.2.2.1 bt229.2.2.2.1 bt229.2.2.2.2.1) else (if a0 = 13 then (tmesislaw06_TokenDots.j0 k t195 bt199.2.2.2.2.2 bt209.2.2.2.2.2 bt219.2.2.2.2.2 bt229.2.2.2.2.2 true bt199.1 bt199.2.1 bt199.2.2.1 bt199.2.2.2.1 bt199.2.2.2.2.1 bt209.1 bt209.2.1 bt209.2.2.1 bt209.2.2.2.1 bt209.2.2.2.2.1 bt219.1 bt219.2.1 bt219.2.2.1 bt219.2.2.2.1 bt219.2.2.2.2.1 bt229.1 bt229.2.1 bt229.2.2.1 bt229.2.2.2.1 bt229.2.2.2.2.1) else (tmesislaw06_TokenDots.j0 k t195 bt199.2.2.2.2.2 bt209.2.2.2.2.2 bt219.2.2.2.2.2 bt229.2.2.2.2.2 (a0 == 37) bt199.1 bt199.2.1 bt199.2.2.1 bt199.2.2.2.1 bt199.2.2.2.2.1 bt209.1 bt209.2.1 bt209.2.2.1 bt209.2.2.2.1 bt209.2.2.2.2.1 bt219.1 bt219.2.1 bt219.2.2.1 bt219.2.2.2.1 bt219.2.2.2.2.1 bt229.1 bt229.2.1 bt229.2.2.1 bt229.2.2.2.1 bt229.2.2.2.2.1)))))))))
theorem tmesislaw06_TokenDots.mono_l : ∀ k, (∀ y0 y1 y2 y3 y4 y5 y6 y7 y8 y9 y10 y11 y12 y13 y14 y15 y16 y17 y18 y19 y20 y21 y22 y23 y24 y25, LeO (tmesislaw06_TokenDots.j0 k y0 y1 y2 y3 y4 y5 y6 y7 y8 y9 y10 y11 y12 y13 y14 y15 y16 y17 y18 y19 y20 y21 y22 y23 y24 y25) (tmesislaw06_TokenDots.j0 (k + 1) y0 y1 y2 y3 y4 y5 y6 y7 y8 y9 y10 y11 y12 y13 y14 y15 y16 y17 y18 y19 y20 y21 y22 y23 y24 y25)) ∧ (∀ y0, LeO (tmesislaw06_TokenDots.j1 k y0) (tmesislaw06_TokenDots.j1 (k + 1) y0))
 | 0 => ⟨fun _ _ _ _ _ _ _ _ _ _ _ _ _ _ _ _ _ _ _ _ _ _ _ _ _ _ r h => by simp [tmesislaw06_TokenDots.j0] at h, fun _ r h => by simp [tmesislaw06_TokenDots.j1] at h⟩
 | k + 1 => by
  obtain ⟨ih0, ih1⟩ := tmesislaw06_TokenDots.mono_l k
  refine ⟨?_, ?_⟩
  ·intro y0 y1 y2 y3 y4 y5 y6 y7 y8 y9 y10 y11 y12 y13 y14 y15 y16 y17 y18 y19 y20 y21 y22 y23 y24 y25
   unfold tmesislaw06_TokenDots.j0
   repeat' first
   | (with_reducible exact ih0 _ _ _ _ _ _ _ _ _ _ _ _ _ _ _ _ _ _ _ _ _ _ _ _ _ _)
   | (with_reducible exact ih1 _)
   | (with_reducible exact tmesislaw06_shown.mono _)
   | (with_reducible exact token_Next.mono _ _ _)
   | (with_reducible exact LeO.refl _)
   | (with_reducible exact LeO.none _)
   | (with_reducible refine LeO.ite ?_ ?_)
   | (with_reducible refine LeO.bind ?_ (fun _ => ?_))
   | exact ih0 _ _ _ _ _ _ _ _ _ _ _ _ _ _ _ _ _ _ _ _ _ _ _ _ _ _
   | exact ih1 _
   | exact tmesislaw06_shown.mono _
   | exact token_Next.mono _ _ _
   | exact LeO.none _
   | refine LeO.ite ?_ ?_
   | refine LeO.bind ?_ (fun _ => ?_)
  ·intro y0
   unfold tmesislaw06_TokenDots.j1
   repeat' first
   | (with_reducible exact ih0 _ _ _ _ _ _ _ _ _ _ _ _ _ _ _ _ _ _ _ _ _ _ _ _ _ _)
   | (with_reducible exact ih1 _)
   | (with_reducible exact tmesislaw06_shown.mono _)
   | (with_reducible exact token_Next.mono _ _ _)
   | (with_reducible exact LeO.refl _)
   | (with_reducible exact LeO.none _)
   | (with_reducible refine LeO.ite ?_ ?_)
   | (with_reducible refine LeO.bind ?_ (fun _ => ?_))
   | exact ih0 _ _ _ _ _ _ _ _ _ _ _ _ _ _ _ _ _ _ _ _ _ _ _ _ _ _
   | exact ih1 _
   | exact tmesislaw06_shown.mono _
   | exact token_Next.mono _ _ _
   | exact LeO.none _
   | refine LeO.ite ?_ ?_
   | refine LeO.bind ?_ (fun _ => ?_)
theorem tmesislaw06_TokenDots.mono : ∀ a0 a1 k, LeO (tmesislaw06_TokenDots.f k a0 a1) (tmesislaw06_TokenDots.f (k + 1) a0 a1) := by
 intro a0 a1 k
 obtain ⟨ih0, ih1⟩ := tmesislaw06_TokenDots.mono_l k
 unfold tmesislaw06_TokenDots.f
 repeat' first
   | (with_reducible exact ih0 _ _ _ _ _ _ _ _ _ _ _ _ _ _ _ _ _ _ _ _ _ _ _ _ _ _)
   | (with_reducible exact ih1 _)
   | (with_reducible exact tmesislaw06_shown.mono _)
   | (with_reducible exact token_Next.mono _ _ _)
   | (with_reducible exact LeO.refl _)
   | (with_reducible exact LeO.none _)
   | (with_reducible refine LeO.ite ?_ ?_)
   | (with_reducible refine LeO.bind ?_ (fun _ => ?_))
   | exact ih0 _ _ _ _ _ _ _ _ _ _ _ _ _ _ _ _ _ _ _ _ _ _ _ _ _ _
   | exact ih1 _
   | exact tmesislaw06_shown.mono _
   | exact token_Next.mono _ _ _
   | exact LeO.none _
   | refine LeO.ite ?_ ?_
   | refine LeO.bind ?_ (fun _ => ?_)
set_option maxHeartbeats 8000000 in
set_option maxRecDepth 100000 in
theorem tmesislaw06_TokenDots.calls (k : Nat) (a0 : Int) (a1 : Int) (r : Bool) (w : World) (hG : Gl w) (h : tmesislaw06_TokenDots.f k a0 a1 = some r) :
  Calls Tryd.prog 8 #[.int .u8 a0, .int .u8 a1] w fun e w' => e = .returned (.bool r) ∧ Below w.heap.size w w' := by
 have hu27 := Tryd.underlying27
 have HB := Aside0.mk (Below.refl w.heap.size w)
 have HG := Aside0.mk hG
 clear hG
 have H : ((tmesislaw06_shown.f k).bind fun t195 => ((token_Next.f k (([46, a0] : List Int)) 0).bind fun bt199 => ((token_Next.f k (([46] : List Int)) 0).bind fun bt209 => ((token_Next.f k (([46, 46, a0] : List Int)) 0).bind fun bt219 => ((token_Next.f k (([a1, 46] : List Int)) 1).bind fun bt229 => (if a0 = 32 then (tmesislaw06_TokenDots.j0 k t195 bt199.2.2.2.2.2 bt209.2.2.2.2.2 bt219.2.2.2.2.2 bt229.2.2.2.2.2 true bt199.1 bt199.2.1 bt199.2.2.1 bt199.2.2.2.1 bt199.2.2.2.2.1 bt209.1 bt209.2.1 bt209.2.2.1 bt209.2.2.2.1 bt209.2.2.2.2.1 bt219.1 bt219.2.1 bt219.2.2.1 bt219.2.2.2.1 bt219.2.2.2.2.1 bt229.1 bt229.2.1 bt229.2.2.1 bt229.2.2.2.1 bt229.2.2.2.2.1) else (if a0 = 9 then (tmesislaw06_TokenDots.j0 k t195 bt199.2.2.2.2.2 bt209.2.2.2.2.2 bt219.2.2.2.2.2 bt229.2.2.2.2.2 true bt199.1 bt199.2.1 bt199.2.2.1 bt199.2.2.2.1 bt199.2.2.2.2.1 bt209.1 bt209.2.1 bt209.2.2.1 bt209.2.2.2.1 bt209.2.2.2.2.1 bt219.1 bt219.2.1 bt219.2.2.1 bt219.2.2.2.1 bt219.2.2.2.2.1 bt229.1 bt229.2.1 bt229.2.2.1 bt229.2.2.2.1 bt229.2.2.2.2.1) else (if a0 = 10 then (tmesislaw06_TokenDots.j0 k t195 bt199.2.2.2.2.2 bt209.2.2.2.2.2 bt219.2.2.2.2.2 bt229.2.2.2.2.2 true bt199.1 bt199.2.1 bt199.2.2.1 bt199.2.2.2.1 bt199.2.2.2.2.1 bt209.1 bt209.2.1 bt209.2.2.1 bt209.2.2.2.1 bt209.2.2.2.2.1 bt219.1 bt219.2.1 bt219.2.2.1 bt219.2.2.2.1 bt219.2.2.2.2.1 bt229.1 bt229.2.1 bt229.2.2.1 bt229.2.2.2.1 bt229.2.2.2.2.1) else (if a0 = 13 then (tmesislaw06_TokenDots.j0 k t195 bt199.2.2.2.2.2 bt209.2.2.2.2.2 bt219.2.2.2.2.2 bt229.2.2.2.2.2 true bt199.1 bt199.2.1 bt199.2.2.1 bt199.2.2.2.1 bt199.2.2.2.2.1 bt209.1 bt209.2.1 bt209.2.2.1 bt209.2.2.2.1 bt209.2.2.2.2.1 bt219.1 bt219.2.1 bt219.2.2.1 bt219.2.2.2.1 bt219.2.2.2.2.1 bt229.1 bt229.2.1 bt229.2.2.1 bt229.2.2.2.1 bt229.2.2.2.2.1) else (tmesislaw06_TokenDots.j0 k t195 bt199.2.2.2.2.2 bt209.2.2.2.2.2 bt219.2.2.2.2.2 bt229.2.2.2.2.2 (a0 == 37) bt199.1 bt199.2.1 bt199.2.2.1 bt199.2.2.2.1 bt199.2.2.2.2.1 bt209.1 bt209.2.1 bt209.2.2.1 bt209.2.2.2.1 bt209.2.2.2.2.1 bt219.1 bt219.2.1 bt219.2.2.1 bt219.2.2.2.1 bt219.2.2.2.2.1 bt229.1 bt229.2.1 bt229.2.2.1 bt229.2.2.2.1 bt229.2.2.2.2.1)))))))))) = some r := h
 clear h
 replace H := Option.bind_eq_some_iff.mp H
 obtain ⟨t195, A30, H⟩ := H
 replace H : ((token_Next.f k (([46, a0] : List Int)) 0).bind fun bt199 => ((token_Next.f k (([46] : List Int)) 0).bind fun bt209 => ((token_Next.f k (([46, 46, a0] : List Int)) 0).bind fun bt219 => ((token_Next.f k (([a1, 46] : List Int)) 1).bind fun bt229 => (if a0 = 32 then (tmesislaw06_TokenDots.j0 k t195 bt199.2.2.2.2.2 bt209.2.2.2.2.2 bt219.2.2.2.2.2 bt229.2.2.2.2.2 true bt199.1 bt199.2.1 bt199.2.2.1 bt199.2.2.2.1 bt199.2.2.2.2.1 bt209.1 bt209.2.1 bt209.2.2.1 bt209.2.2.2.1 bt209.2.2.2.2.1 bt219.1 bt219.2.1 bt219.2.2.1 bt219.2.2.2.1 bt219.2.2.2.2.1 bt229.1 bt229.2.1 bt229.2.2.1 bt229.2.2.2.1 bt229.2.2.2.2.1) else (if a0 = 9 then (tmesislaw06_TokenDots.j0 k t195 bt199.2.2.2.2.2 bt209.2.2.2.2.2 bt219.2.2.2.2.2 bt229.2.2.2.2.2 true bt199.1 bt199.2.1 bt199.2.2.1 bt199.2.2.2.1 bt199.2.2.2.2.1 bt209.1 bt209.2.1 bt209.2.2.1 bt209.2.2.2.1 bt209.2.2.2.2.1 bt219.1 bt219.2.1 bt219.2.2.1 bt219.2.2.2.1 bt219.2.2.2.2.1 bt229.1 bt229.2.1 bt229.2.2.1 bt229.2.2.2.1 bt229.2.2.2.2.1) else (if a0 = 10 then (tmesislaw06_TokenDots.j0 k t195 bt199.2.2.2.2.2 bt209.2.2.2.2.2 bt219.2.2.2.2.2 bt229.2.2.2.2.2 true bt199.1 bt199.2.1 bt199.2.2.1 bt199.2.2.2.1 bt199.2.2.2.2.1 bt209.1 bt209.2.1 bt209.2.2.1 bt209.2.2.2.1 bt209.2.2.2.2.1 bt219.1 bt219.2.1 bt219.2.2.1 bt219.2.2.2.1 bt219.2.2.2.2.1 bt229.1 bt229.2.1 bt229.2.2.1 bt229.2.2.2.1 bt229.2.2.2.2.1) else (if a0 = 13 then (tmesislaw06_TokenDots.j0 k t195 bt199.2.2.2.2.2 bt209.2.2.2.2.2 bt219.2.2.2.2.2 bt229.2.2.2.2.2 true bt199.1 bt199.2.1 bt199.2.2.1 bt199.2.2.2.1 bt199.2.2.2.2.1 bt209.1 bt209.2.1 bt209.2.2.1 bt209.2.2.2.1 bt209.2.2.2.2.1 bt219.1 bt219.2.1 bt219.2.2.1 bt219.2.2.2.1 bt219.2.2.2.2.1 bt229.1 bt229.2.1 bt229.2.2.1 bt229.2.2.2.1 bt229.2.2.2.2.1) else (tmesislaw06_TokenDots.j0 k t195 bt199.2.2.2.2.2 bt209.2.2.2.2.2 bt219.2.2.2.2.2 bt229.2.2.2.2.2 (a0 == 37) bt199.1 bt199.2.1 bt199.2.2.1 bt199.2.2.2.1 bt199.2.2.2.2.1 bt209.1 bt209.2.1 bt209.2.2.1 bt209.2.2.2.1 bt209.2.2.2.2.1 bt219.1 bt219.2.1 bt219.2.2.1 bt219.2.2.2.1 bt219.2.2.2.2.1 bt229.1 bt229.2.1 bt229.2.2.1 bt229.2.2.2.1 bt229.2.2.2.2.1))))))))) = some r := H
 have A3 := Aside0.mk A30
 clear A30
 obtain ⟨y196, hy196⟩ : ∃ y_ : List Int, y_ = (([46, a0] : List Int)) := ⟨_, rfl⟩
 replace H : ((token_Next.f k y196 0).bind fun bt199 => ((token_Next.f k (([46] : List Int)) 0).bind fun bt209 => ((token_Next.f k (([46, 46, a0] : List Int)) 0).bind fun bt219 => ((token_Next.f k (([a1, 46] : List Int)) 1).bind fun bt229 => (if a0 = 32 then (tmesislaw06_TokenDots.j0 k t195 bt199.2.2.2.2.2 bt209.2.2.2.2.2 bt219.2.2.2.2.2 bt229.2.2.2.2.2 true bt199.1 bt199.2.1 bt199.2.2.1 bt199.2.2.2.1 bt199.2.2.2.2.1 bt209.1 bt209.2.1 bt209.2.2.1 bt209.2.2.2.1 bt209.2.2.2.2.1 bt219.1 bt219.2.1 bt219.2.2.1 bt219.2.2.2.1 bt219.2.2.2.2.1 bt229.1 bt229.2.1 bt229.2.2.1 bt229.2.2.2.1 bt229.2.2.2.2.1) else (if a0 = 9 then (tmesislaw06_TokenDots.j0 k t195 bt199.2.2.2.2.2 bt209.2.2.2.2.2 bt219.2.2.2.2.2 bt229.2.2.2.2.2 true bt199.1 bt199.2.1 bt199.2.2.1 bt199.2.2.2.1 bt199.2.2.2.2.1 bt209.1 bt209.2.1 bt209.2.2.1 bt209.2.2.2.1 bt209.2.2.2.2.1 bt219.1 bt219.2.1 bt219.2.2.1 bt219.2.2.2.1 bt219.2.2.2.2.1 bt229.1 bt229.2.1 bt229.2.2.1 bt229.2.2.2.1 bt229.2.2.2.2.1) else (if a0 = 10 then (tmesislaw06_TokenDots.j0 k t195 bt199.2.2.2.2.2 bt209.2.2.2.2.2 bt219.2.2.2.2.2 bt229.2.2.2.2.2 true bt199.1 bt199.2.1 bt199.2.2.1 bt199.2.2.2.1 bt199.2.2.2.2.1 bt209.1 bt209.2.1 bt209.2.2.1 bt209.2.2.2.1 bt209.2.2.2.2.1 bt219.1 bt219.2.1 bt219.2.2.1 bt219.2.2.2.1 bt219.2.2.2.2.1 bt229.1 bt229.2.1 bt229.2.2.1 bt229.2.2.2.1 bt229.2.2.2.2.1) else (if a0 = 13 then (tmesislaw06_TokenDots.j0 k t195 bt199.2.2.2.2.2 bt209.2.2.2.2.2 bt219.2.2.2.2.2 bt229.2.2.2.2.2 true bt199.1 bt199.2.1 bt199.2.2.1 bt199.2.2.2.1 bt199.2.2.2.2.1 bt209.1 bt209.2.1 bt209.2.2.1 bt209.2.2.2.1 bt209.2.2.2.2.1 bt219.1 bt219.2.1 bt219.2.2.1 bt219.2.2.2.1 bt219.2.2.2.2.1 bt229.1 bt229.2.1 bt229.2.2.1 bt229.2.2.2.1 bt229.2.2.2.2.1) else (tmesislaw06_TokenDots.j0 k t195 bt199.2.2.2.2.2 bt209.2.2.2.2.2 bt219.2.2.2.2.2 bt229.2.2.2.2.2 (a0 == 37) bt199.1 bt199.2.1 bt199.2.2.1 bt199.2.2.2.1 bt199.2.2.2.2.1 bt209.1 bt209.2.1 bt209.2.2.1 bt209.2.2.2.1 bt209.2.2.2.2.1 bt219.1 bt219.2.1 bt219.2.2.1 bt219.2.2.2.1 bt219.2.2.2.2.1 bt229.1 bt229.2.1 bt229.2.2.1 bt229.2.2.2.1 bt229.2.2.2.2.1))))))))) = some r := by first | (rw [hy196]; with_reducible exact H) | (have H2_ := (Option.bind_some _ _).symm.trans H; rw [hy196]; with_reducible exact H2_) | (have H2_ := (Option.bind_some _ _).symm.trans H; with_reducible exact H2_) | with_reducible exact H | (rw [hy196]; exact H) | exact H
 have Ny196 := Aside0.mk hy196
 clear hy196
 replace H := Option.bind_eq_some_iff.mp H
 obtain ⟨⟨t199, t200, t201, t202, t203, t204⟩, A40, H⟩ := H
 replace H : ((token_Next.f k (([46] : List Int)) 0).bind fun bt209 => ((token_Next.f k (([46, 46, a0] : List Int)) 0).bind fun bt219 => ((token_Next.f k (([a1, 46] : List Int)) 1).bind fun bt229 => (if a0 = 32 then (tmesislaw06_TokenDots.j0 k t195 t204 bt209.2.2.2.2.2 bt219.2.2.2.2.2 bt229.2.2.2.2.2 true t199 t200 t201 t202 t203 bt209.1 bt209.2.1 bt209.2.2.1 bt209.2.2.2.1 bt209.2.2.2.2.1 bt219.1 bt219.2.1 bt219.2.2.1 bt219.2.2.2.1 bt219.2.2.2.2.1 bt229.1 bt229.2.1 bt229.2.2.1 bt229.2.2.2.1 bt229.2.2.2.2.1) else (if a0 = 9 then (tmesislaw06_TokenDots.j0 k t195 t204 bt209.2.2.2.2.2 bt219.2.2.2.2.2 bt229.2.2.2.2.2 true t199 t200 t201 t202 t203 bt209.1 bt209.2.1 bt209.2.2.1 bt209.2.2.2.1 bt209.2.2.2.2.1 bt219.1 bt219.2.1 bt219.2.2.1 bt219.2.2.2.1 bt219.2.2.2.2.1 bt229.1 bt229.2.1 bt229.2.2.1 bt229.2.2.2.1 bt229.2.2.2.2.1) else (if a0 = 10 then (tmesislaw06_TokenDots.j0 k t195 t204 bt209.2.2.2.2.2 bt219.2.2.2.2.2 bt229.2.2.2.2.2 true t199 t200 t201 t202 t203 bt209.1 bt209.2.1 bt209.2.2.1 bt209.2.2.2.1 bt209.2.2.2.2.1 bt219.1 bt219.2.1 bt219.2.2.1 bt219.2.2.2.1 bt219.2.2.2.2.1 bt229.1 bt229.2.1 bt229.2.2.1 bt229.2.2.2.1 bt229.2.2.2.2.1) else (if a0 = 13 then (tmesislaw06_TokenDots.j0 k t195 t204 bt209.2.2.2.2.2 bt219.2.2.2.2.2 bt229.2.2.2.2.2 true t199 t200 t201 t202 t203 bt209.1 bt209.2.1 bt209.2.2.1 bt209.2.2.2.1 bt209.2.2.2.2.1 bt219.1 bt219.2.1 bt219.2.2.1 bt219.2.2.2.1 bt219.2.2.2.2.1 bt229.1 bt229.2.1 bt229.2.2.1 bt229.2.2.2.1 bt229.2.2.2.2.1) else (tmesislaw06_TokenDots.j0 k t195 t204 bt209.2.2.2.2.2 bt219.2.2.2.2.2 bt229.2.2.2.2.2 (a0 == 37) t199 t200 t201 t202 t203 bt209.1 bt209.2.1 bt209.2.2.1 bt209.2.2.2.1 bt209.2.2.2.2.1 bt219.1 bt219.2.1 bt219.2.2.1 bt219.2.2.2.1 bt219.2.2.2.2.1 bt229.1 bt229.2.1 bt229.2.2.1 bt229.2.2.2.1 bt229.2.2.2.2.1)))))))) = some r := H
 have A4 := Aside0.mk A40
 clear A40
 obtain ⟨y206, hy206⟩ : ∃ y_ : List Int, y_ = (([46] : List Int)) := ⟨_, rfl⟩
 replace H : ((token_Next.f k y206 0).bind fun bt209 => ((token_Next.f k (([46, 46, a0] : List Int)) 0).bind fun bt219 => ((token_Next.f k (([a1, 46] : List Int)) 1).bind fun bt229 => (if a0 = 32 then (tmesislaw06_TokenDots.j0 k t195 t204 bt209.2.2.2.2.2 bt219.2.2.2.2.2 bt229.2.2.2.2.2 true t199 t200 t201 t202 t203 bt209.1 bt209.2.1 bt209.2.2.1 bt209.2.2.2.1 bt209.2.2.2.2.1 bt219.1 bt219.2.1 bt219.2.2.1 bt219.2.2.2.1 bt219.2.2.2.2.1 bt229.1 bt229.2.1 bt229.2.2.1 bt229.2.2.2.1 bt229.2.2.2.2.1) else (if a0 = 9 then (tmesislaw06_TokenDots.j0 k t195 t204 bt209.2.2.2.2.2 bt219.2.2.2.2.2 bt229.2.2.2.2.2 true t199 t200 t201 t202 t203 bt209.1 bt209.2.1 bt209.2.2.1 bt209.2.2.2.1 bt209.2.2.2.2.1 bt219.1 bt219.2.1 bt219.2.2.1 bt219.2.2.2.1 bt219.2.2.2.2.1 bt229.1 bt229.2.1 bt229.2.2.1 bt229.2.2.2.1 bt229.2.2.2.2.1) else (if a0 = 10 then (tmesislaw06_TokenDots.j0 k t195 t204 bt209.2.2.2.2.2 bt219.2.2.2.2.2 bt229.2.2.2.2.2 true t199 t200 t201 t202 t203 bt209.1 bt209.2.1 bt209.2.2.1 bt209.2.2.2.1 bt209.2.2.2.2.1 bt219.1 bt219.2.1 bt219.2.2.1 bt219.2.2.2.1 bt219.2.2.2.2.1 bt229.1 bt229.2.1 bt229.2.2.1 bt229.2.2.2.1 bt229.2.2.2.2.1) else (if a0 = 13 then (tmesislaw06_TokenDots.j0 k t195 t204 bt209.2.2.2.2.2 bt219.2.2.2.2.2 bt229.2.2.2.2.2 true t199 t200 t201 t202 t203 bt209.1 bt209.2.1 bt209.2.2.1 bt209.2.2.2.1 bt209.2.2.2.2.1 bt219.1 bt219.2.1 bt219.2.2.1 bt219.2.2.2.1 bt219.2.2.2.2.1 bt229.1 bt229.2.1 bt229.2.2.1 bt229.2.2.2.1 bt229.2.2.2.2.1) else (tmesislaw06_TokenDots.j0 k t195 t204 bt209.2.2.2.2.2 bt219.2.2.2.2.2 bt229.2.2.2.2.2 (a0 == 37) t199 t200 t201 t202 t203 bt209.1 bt209.2.1 bt209.2.2.1 bt209.2.2.2.1 bt209.2.2.2.2.1 bt219.1 bt219.2.1 bt219.2.2.1 bt219.2.2.2.1 bt219.2.2.2.2.1 bt229.1 bt229.2.1 bt229.2.2.1 bt229.2.2.2.1 bt229.2.2.2.2.1)))))))) = some r := by first | (rw [hy206]; with_reducible exact H) | (have H2_ := (Option.bind_some _ _).symm.trans H; rw [hy206]; with_reducible exact H2_) | (have H2_ := (Option.bind_some _ _).symm.trans H; with_reducible exact H2_) | with_reducible exact H | (rw [hy206]; exact H) | exact H
 have Ny206 := Aside0.mk hy206
 clear hy206
 replace H := Option.bind_eq_some_iff.mp H
 obtain ⟨⟨t209, t210, t211, t212, t213, t214⟩, A50, H⟩ := H
 replace H : ((token_Next.f k (([46, 46, a0] : List Int)) 0).bind fun bt219 => ((token_Next.f k (([a1, 46] : List Int)) 1).bind fun bt229 => (if a0 = 32 then (tmesislaw06_TokenDots.j0 k t195 t204 t214 bt219.2.2.2.2.2 bt229.2.2.2.2.2 true t199 t200 t201 t202 t203 t209 t210 t211 t212 t213 bt219.1 bt219.2.1 bt219.2.2.1 bt219.2.2.2.1 bt219.2.2.2.2.1 bt229.1 bt229.2.1 bt229.2.2.1 bt229.2.2.2.1 bt229.2.2.2.2.1) else (if a0 = 9 then (tmesislaw06_TokenDots.j0 k t195 t204 t214 bt219.2.2.2.2.2 bt229.2.2.2.2.2 true t199 t200 t201 t202 t203 t209 t210 t211 t212 t213 bt219.1 bt219.2.1 bt219.2.2.1 bt219.2.2.2.1 bt219.2.2.2.2.1 bt229.1 bt229.2.1 bt229.2.2.1 bt229.2.2.2.1 bt229.2.2.2.2.1) else (if a0 = 10 then (tmesislaw06_TokenDots.j0 k t195 t204 t214 bt219.2.2.2.2.2 bt229.2.2.2.2.2 true t199 t200 t201 t202 t203 t209 t210 t211 t212 t213 bt219.1 bt219.2.1 bt219.2.2.1 bt219.2.2.2.1 bt219.2.2.2.2.1 bt229.1 bt229.2.1 bt229.2.2.1 bt229.2.2.2.1 bt229.2.2.2.2.1) else (if a0 = 13 then (tmesislaw06_TokenDots.j0 k t195 t204 t214 bt219.2.2.2.2.2 bt229.2.2.2.2.2 true t199 t200 t201 t202 t203 t209 t210 t211 t212 t213 bt219.1 bt219.2.1 bt219.2.2.1 bt219.2.2.2.1 bt219.2.2.2.2.1 bt229.1 bt229.2.1 bt229.2.2.1 bt229.2.2.2.1 bt229.2.2.2.2.1) else (tmesislaw06_TokenDots.j0 k t195 t204 t214 bt219.2.2.2.2.2 bt229.2.2.2.2.2 (a0 == 37) t199 t200 t201 t202 t203 t209 t210 t211 t212 t213 bt219.1 bt219.2.1 bt219.2.2.1 bt219.2.2.2.1 bt219.2.2.2.2.1 bt229.1 bt229.2.1 bt229.2.2.1 bt229.2.2.2.1 bt229.2.2.2.2.1))))))) = some r := H
 have A5 := Aside0.mk A50
 clear A50
 obtain ⟨y216, hy216⟩ : ∃ y_ : List Int, y_ = (([46, 46, a0] : List Int)) := ⟨_, rfl⟩
 replace H : ((token_Next.f k y216 0).bind fun bt219 => ((token_Next.f k (([a1, 46] : List Int)) 1).bind fun bt229 => (if a0 = 32 then (tmesislaw06_TokenDots.j0 k t195 t204 t214 bt219.2.2.2.2.2 bt229.2.2.2.2.2 true t199 t200 t201 t202 t203 t209 t210 t211 t212 t213 bt219.1 bt219.2.1 bt219.2.2.1 bt219.2.2.2.1 bt219.2.2.2.2.1 bt229.1 bt229.2.1 bt229.2.2.1 bt229.2.2.2.1 bt229.2.2.2.2.1) else (if a0 = 9 then (tmesislaw06_TokenDots.j0 k t195 t204 t214 bt219.2.2.2.2.2 bt229.2.2.2.2.2 true t199 t200 t201 t202 t203 t209 t210 t211 t212 t213 bt219.1 bt219.2.1 bt219.2.2.1 bt219.2.2.2.1 bt219.2.2.2.2.1 bt229.1 bt229.2.1 bt229.2.2.1 bt229.2.2.2.1 bt229.2.2.2.2.1) else (if a0 = 10 then (tmesislaw06_TokenDots.j0 k t195 t204 t214 bt219.2.2.2.2.2 bt229.2.2.2.2.2 true t199 t200 t201 t202 t203 t209 t210 t211 t212 t213 bt219.1 bt219.2.1 bt219.2.2.1 bt219.2.2.2.1 bt219.2.2.2.2.1 bt229.1 bt229.2.1 bt229.2.2.1 bt229.2.2.2.1 bt229.2.2.2.2.1) else (if a0 = 13 then (tmesislaw06_TokenDots.j0 k t195 t204 t214 bt219.2.2.2.2.2 bt229.2.2.2.2.2 true t199 t200 t201 t202 t203 t209 t210 t211 t212 t213 bt219.1 bt219.2.1 bt219.2.2.1 bt219.2.2.2.1 bt219.2.2.2.2.1 bt229.1 bt229.2.1 bt229.2.2.1 bt229.2.2.2.1 bt229.2.2.2.2.1) else (tmesislaw06_TokenDots.j0 k t195 t204 t214 bt219.2.2.2.2.2 bt229.2.2.2.2.2 (a0 == 37) t199 t200 t201 t202 t203 t209 t210 t211 t212 t213 bt219.1 bt219.2.1 bt219.2.2.1 bt219.2.2.2.1 bt219.2.2.2.2.1 bt229.1 bt229.2.1 bt229.2.2.1 bt229.2.2.2.1 bt229.2.2.2.2.1))))))) = some r := by first | (rw [hy216]; with_reducible exact H) | (have H2_ := (Option.bind_some _ _).symm.trans H; rw [hy216]; with_reducible exact H2_) | (have H2_ := (Option.bind_some _ _).symm.trans H; with_reducible exact H2_) | with_reducible exact H | (rw [hy216]; exact H) | exact H
 have Ny216 := Aside0.mk hy216
 clear hy216
 replace H := Option.bind_eq_some_iff.mp H
 obtain ⟨⟨t219, t220, t221, t222, t223, t224⟩, A60, H⟩ := H
 replace H : ((token_Next.f k (([a1, 46] : List Int)) 1).bind fun bt229 => (if a0 = 32 then (tmesislaw06_TokenDots.j0 k t195 t204 t214 t224 bt229.2.2.2.2.2 true t199 t200 t201 t202 t203 t209 t210 t211 t212 t213 t219 t220 t221 t222 t223 bt229.1 bt229.2.1 bt229.2.2.1 bt229.2.2.2.1 bt229.2.2.2.2.1) else (if a0 = 9 then (tmesislaw06_TokenDots.j0 k t195 t204 t214 t224 bt229.2.2.2.2.2 true t199 t200 t201 t202 t203 t209 t210 t211 t212 t213 t219 t220 t221 t222 t223 bt229.1 bt229.2.1 bt229.2.2.1 bt229.2.2.2.1 bt229.2.2.2.2.1) else (if a0 = 10 then (tmesislaw06_TokenDots.j0 k t195 t204 t214 t224 bt229.2.2.2.2.2 true t199 t200 t201 t202 t203 t209 t210 t211 t212 t213 t219 t220 t221 t222 t223 bt229.1 bt229.2.1 bt229.2.2.1 bt229.2.2.2.1 bt229.2.2.2.2.1) else (if a0 = 13 then (tmesislaw06_TokenDots.j0 k t195 t204 t214 t224 bt229.2.2.2.2.2 true t199 t200 t201 t202 t203 t209 t210 t211 t212 t213 t219 t220 t221 t222 t223 bt229.1 bt229.2.1 bt229.2.2.1 bt229.2.2.2.1 bt229.2.2.2.2.1) else (tmesislaw06_TokenDots.j0 k t195 t204 t214 t224 bt229.2.2.2.2.2 (a0 == 37) t199 t200 t201 t202 t203 t209 t210 t211 t212 t213 t219 t220 t221 t222 t223 bt229.1 bt229.2.1 bt229.2.2.1 bt229.2.2.2.1 bt229.2.2.2.2.1)))))) = some r := H
 have A6 := Aside0.mk A60
 clear A60
 obtain ⟨y226, hy226⟩ : ∃ y_ : List Int, y_ = (([a1, 46] : List Int)) := ⟨_, rfl⟩
 replace H : ((token_Next.f k y226 1).bind fun bt229 => (if a0 = 32 then (tmesislaw06_TokenDots.j0 k t195 t204 t214 t224 bt229.2.2.2.2.2 true t199 t200 t201 t202 t203 t209 t210 t211 t212 t213 t219 t220 t221 t222 t223 bt229.1 bt229.2.1 bt229.2.2.1 bt229.2.2.2.1 bt229.2.2.2.2.1) else (if a0 = 9 then (tmesislaw06_TokenDots.j0 k t195 t204 t214 t224 bt229.2.2.2.2.2 true t199 t200 t201 t202 t203 t209 t210 t211 t212 t213 t219 t220 t221 t222 t223 bt229.1 bt229.2.1 bt229.2.2.1 bt229.2.2.2.1 bt229.2.2.2.2.1) else (if a0 = 10 then (tmesislaw06_TokenDots.j0 k t195 t204 t214 t224 bt229.2.2.2.2.2 true t199 t200 t201 t202 t203 t209 t210 t211 t212 t213 t219 t220 t221 t222 t223 bt229.1 bt229.2.1 bt229.2.2.1 bt229.2.2.2.1 bt229.2.2.2.2.1) else (if a0 = 13 then (tmesislaw06_TokenDots.j0 k t195 t204 t214 t224 bt229.2.2.2.2.2 true t199 t200 t201 t202 t203 t209 t210 t211 t212 t213 t219 t220 t221 t222 t223 bt229.1 bt229.2.1 bt229.2.2.1 bt229.2.2.2.1 bt229.2.2.2.2.1) else (tmesislaw06_TokenDots.j0 k t195 t204 t214 t224 bt229.2.2.2.2.2 (a0 == 37) t199 t200 t201 t202 t203 t209 t210 t211 t212 t213 t219 t220 t221 t222 t223 bt229.1 bt229.2.1 bt229.2.2.1 bt229.2.2.2.1 bt229.2.2.2.2.1)))))) = some r := by first | (rw [hy226]; with_reducible exact H) | (have H2_ := (Option.bind_some _ _).symm.trans H; rw [hy226]; with_reducible exact H2_) | (have H2_ := (Option.bind_some _ _).symm.trans H; with_reducible exact H2_) | with_reducible exact H | (rw [hy226]; exact H) | exact H
 have Ny226 := Aside0.mk hy226
 clear hy226
 replace H := Option.bind_eq_some_iff.mp H
 obtain ⟨⟨t229, t230, t231, t232, t233, t234⟩, A70, H⟩ := H
 replace H : (if a0 = 32 then (tmesislaw06_TokenDots.j0 k t195 t204 t214 t224 t234 true t199 t200 t201 t202 t203 t209 t210 t211 t212 t213 t219 t220 t221 t222 t223 t229 t230 t231 t232 t233) else (if a0 = 9 then (tmesislaw06_TokenDots.j0 k t195 t204 t214 t224 t234 true t199 t200 t201 t202 t203 t209 t210 t211 t212 t213 t219 t220 t221 t222 t223 t229 t230 t231 t232 t233) else (if a0 = 10 then (tmesislaw06_TokenDots.j0 k t195 t204 t214 t224 t234 true t199 t200 t201 t202 t203 t209 t210 t211 t212 t213 t219 t220 t221 t222 t223 t229 t230 t231 t232 t233) else (if a0 = 13 then (tmesislaw06_TokenDots.j0 k t195 t204 t214 t224 t234 true t199 t200 t201 t202 t203 t209 t210 t211 t212 t213 t219 t220 t221 t222 t223 t229 t230 t231 t232 t233) else (tmesislaw06_TokenDots.j0 k t195 t204 t214 t224 t234 (a0 == 37) t199 t200 t201 t202 t203 t209 t210 t211 t212 t213 t219 t220 t221 t222 t223 t229 t230 t231 t232 t233))))) = some r := H
 have A7 := Aside0.mk A70
 clear A70
 have HC8 := Aside0.mk H
 clear H
 go_enter Tryd.func8, Tryd.ntmps8
 go_upto_region 6 with (first | ((with_reducible refine gate_callee (f := 9) rfl ?_); refine goesL_ (some 15) rfl rfl Tryd.func9 (by kernel_rfl) rfl #[] rfl (by (try simp only [List.map_toArray, List.map_cons, List.map_nil]); first | done | rfl | (simp only [List.length_drop, List.length_take]; rfl)) ?_; (with_reducible refine (tmesislaw06_shown.calls k  t195 _ ?side1 A3.out).mono ?_); (case side1 => exact Gl.below HG.out (by repeat (first | (with_reducible first | exact HB.out | apply below_alloc | apply pw_below_drewN | apply below_drew1) | exact HB.out))); rintro e w9 ⟨rfl, hb⟩; refine ⟨_, rfl, ?_⟩; have n0_ := Aside0.mk (below_step (by repeat (first | (with_reducible first | exact HB.out | apply below_alloc | apply pw_below_drewN | apply below_drew1) | exact HB.out)) hb); clear HB; have HB := n0_; clear n0_; (try clear hb); (try clear hb2); (try clear hk); (try clear hi)) | ((with_reducible refine gate_dst (N := 18) rfl ?_); refine Kd.R_lit (Kd.int .u8) _ 5 ?hg (N := 18) ?hd (xs := ([46, a0] : List Int)) (inner := [.int .u8 46, .int .u8 a0]) (ok := fun _ => True) (okp := fun _ => True) ?hr ?hp (fun _ hk => hk) trivial (Below.refl _ _) (Nat.le_refl _) (by simp) ?_; (case hd => rfl); (case hg => rfl); (case hr => first | (go_simp; done) | (go_simp; rfl)); (case hp => exact (Reps.one (show Kd.M (Kd.int .u8) _ _ _ 46 [.int .u8 46] from rfl) (Reps.one (show Kd.M (Kd.int .u8) _ _ _ a0 [.int .u8 a0] from rfl) (Reps.none _ _)))); intro v197 w10 ho11 hb hg_ hnew_; clear hg_ hnew_; (first | rw [← Ny196.out] at ho11 | (simp only [Int.reduceToNat] at ho11; rw [← Ny196.out] at ho11)); have n0_ := Aside0.mk (Kd.R_lower ho11 (below_size (by repeat (first | (with_reducible first | exact HB.out | apply below_alloc | apply pw_below_drewN | apply below_drew1) | exact HB.out)))); have n1_ := Aside0.mk (below_step (by repeat (first | (with_reducible first | exact HB.out | apply below_alloc | apply pw_below_drewN | apply below_drew1) | exact HB.out)) hb); clear HB; have HO198 := n0_; have HB := n1_; clear n0_ n1_; clear hb ho11; obtain ⟨Ao12, co12, eo12⟩ := Kd.R_slice HO198.out; subst eo12) | ((with_reducible refine gate_callee (f := 11) rfl ?_); refine goesL_ (some 19) rfl rfl Tryd.func11 (by kernel_rfl) rfl #[.slice Ao12 y196.length co12, .int .i64 0] rfl (by (try simp only [List.map_toArray, List.map_cons, List.map_nil]); first | done | rfl | (simp only [List.length_drop, List.length_take]; rfl)) ?_; (with_reducible refine (token_Next.calls k _ _ y196 0 t199 t200 t201 t202 t203 t204 _ ?side1 ?side2 ?side3 A4.out).mono ?_); (case side1 => exact Gl.below HG.out (by repeat (first | (with_reducible first | exact HB.out | apply below_alloc | apply pw_below_drewN | apply below_drew1) | exact HB.out))); (case side2 => repeat (first | exact (Kd.R_reads' HO198.out).2.2 | (with_reducible refine Kd.C_alloc ?_ _) | (with_reducible refine Kd.C_drewN ?_ _) | (with_reducible refine Kd.C_drew ?_))); (case side3 => exact (Kd.R_reads' HO198.out).2.1); rintro e w13 ⟨rfl, hb⟩; refine ⟨_, rfl, ?_⟩; have n0_ := Aside0.mk (Kd.R_below (by (with_reducible repeat (first | apply Kd.R_alloc | apply Kd.R_drewN | apply Kd.R_drew)); exact HO198.out) hb); have n1_ := Aside0.mk (below_step (by repeat (first | (with_reducible first | exact HB.out | apply below_alloc | apply pw_below_drewN | apply below_drew1) | exact HB.out)) hb); clear HO198; clear HB; have HO198 := n0_; have HB := n1_; clear n0_ n1_; (try clear hb); (try clear hb2); (try clear hk); (try clear hi)) | ((with_reducible refine gate_dst (N := 6) rfl ?_); refine box_event ?hg (N := 6) ?hd (cs := #[.int .i64 0, .int .i64 0, .int .i64 0, .string (⟨#[]⟩ : ByteArray), .int .i64 0]) (t := 27) ?hr ?_; (case hd => rfl); (case hg => rfl); (case hr => first | (go_simp; done) | (go_simp; rfl)); intro gb205 hg w14 hbox hb; have n0_ := Aside0.mk (Kd.R_below (by (with_reducible repeat (first | apply Kd.R_alloc | apply Kd.R_drewN | apply Kd.R_drew)); exact HO198.out) hb); have n1_ := Aside0.mk (below_step (by repeat (first | (with_reducible first | exact HB.out | apply below_alloc | apply pw_below_drewN | apply below_drew1) | exact HB.out)) hb); have n2_ := Aside0.mk (hbox); have n3_ := Aside0.mk ((by rw [hg]; exact (below_size (by repeat (first | (with_reducible first | exact HB.out | apply below_alloc | apply pw_below_drewN | apply below_drew1) | exact HB.out))) : w.heap.size ≤ gb205)); have n4_ := Aside0.mk ((by rw [hg]; exact (below_size (by repeat (first | (with_reducible first | exact HB.out | apply below_alloc | apply pw_below_drewN | apply below_drew1) | exact HB.out))) : w.heap.size ≤ gb205)); clear HO198; clear HB; have HO198 := n0_; have HB := n1_; have BK205 := n2_; have GW205 := n3_; have GE205 := n4_; clear n0_ n1_ n2_ n3_ n4_; clear hb hbox hg; have hcz15_0 : w14.cell? ⟨gb205, 0, none⟩ = some (.int .i64 0) := (blk_cell BK205.out 0).trans rfl; have hcz15_1 : w14.cell? ⟨gb205, 1, none⟩ = some (.int .i64 0) := (blk_cell BK205.out 1).trans rfl; have hcz15_2 : w14.cell? ⟨gb205, 2, none⟩ = some (.int .i64 0) := (blk_cell BK205.out 2).trans rfl; have hcz15_3 : w14.cell? ⟨gb205, 3, none⟩ = some (.string (⟨#[]⟩ : ByteArray)) := (blk_cell BK205.out 3).trans rfl; have hcz15_4 : w14.cell? ⟨gb205, 4, none⟩ = some (.int .i64 0) := (blk_cell BK205.out 4).trans rfl; have hfz15_0 := blk_frozen BK205.out 0; have hfz15_1 := blk_frozen BK205.out 1; have hfz15_2 := blk_frozen BK205.out 2; have hfz15_3 := blk_frozen BK205.out 3; have hfz15_4 := blk_frozen BK205.out 4) | ((with_reducible refine gate_dst (N := 23) rfl ?_); refine V_litsG _ 5 ?hg (N := 23) ?hd (xs := ([46] : List Int)) ?hr ?hw2 ?hr2 (Below.refl _ _) (Nat.le_refl _) (by simp) ?_; (case hd => rfl); (case hg => rfl); (case hr => intro W_; first | (go_simp; done) | (go_simp; rfl)); (case hw2 => rfl); (case hr2 => intro W_; go_simp; rw [run_convert_lit _ 22 5 _ _ _ Tryd.underlying22 Tryd.underlying5]; rfl); intro v207 w16 ho17 hb hg_ hnew_; clear hg_ hnew_; (first | rw [← Ny206.out] at ho17 | (simp only [Int.reduceToNat] at ho17; rw [← Ny206.out] at ho17)); have n0_ := Aside0.mk (Kd.R_below (by (with_reducible repeat (first | apply Kd.R_alloc | apply Kd.R_drewN | apply Kd.R_drew)); exact (Kd.R_mono (Kd.R_far (p := ⟨gb205, 4, none⟩) (Kd.R_far (p := ⟨gb205, 3, none⟩) (Kd.R_far (p := ⟨gb205, 2, none⟩) (Kd.R_far (p := ⟨gb205, 1, none⟩) (Kd.R_far (p := ⟨gb205, 0, none⟩) (Kd.R_types HO198.out BK205.out (by decide)) (fun _ hk => hk.2) (.int .i64 t199)) (fun _ hk => hk.2) (.int .i64 t200)) (fun _ hk => hk.2) (.int .i64 t201)) (fun _ hk => hk.2) (.string t202)) (fun _ hk => hk.2) (.int .i64 t203)) (fun _ h_ => h_.1))) hb); have n1_ := Aside0.mk (Kd.V_lower (Kd.V_mono (ok' := fun k_ => some k_ ≠ (.slice Ao12 y196.length co12 : Value).ownBlock ∧ k_ ≠ gb205) ho17 (fun k_ hk_ => ⟨(Kd.fresh' (Kd.R_lt (by (with_reducible repeat (first | apply Kd.R_alloc | apply Kd.R_drewN | apply Kd.R_drew)); exact (Kd.R_mono (Kd.R_far (p := ⟨gb205, 4, none⟩) (Kd.R_far (p := ⟨gb205, 3, none⟩) (Kd.R_far (p := ⟨gb205, 2, none⟩) (Kd.R_far (p := ⟨gb205, 1, none⟩) (Kd.R_far (p := ⟨gb205, 0, none⟩) (Kd.R_types HO198.out BK205.out (by decide)) (fun _ hk => hk.2) (.int .i64 t199)) (fun _ hk => hk.2) (.int .i64 t200)) (fun _ hk => hk.2) (.int .i64 t201)) (fun _ hk => hk.2) (.string t202)) (fun _ hk => hk.2) (.int .i64 t203)) (fun _ h_ => h_.1)))) k_ hk_), (Kd.freshB (g := gb205) (o := .cells #[.int .i64 t199, .int .i64 t200, .int .i64 t201, .string t202, .int .i64 t203] 27 (0, 0)) (by (with_reducible repeat (first | refine blk_drewN ?_ _ | refine blk_drew ?_ | refine blk_alloc ?_ _)); refine blk_put (cs := #[.int .i64 t199, .int .i64 t200, .int .i64 t201, .string t202, .int .i64 0]) ?_ 4 _ rfl; (with_reducible repeat (first | refine blk_drewN ?_ _ | refine blk_drew ?_ | refine blk_alloc ?_ _)); refine blk_put (cs := #[.int .i64 t199, .int .i64 t200, .int .i64 t201, .string (⟨#[]⟩ : ByteArray), .int .i64 0]) ?_ 3 _ rfl; (with_reducible repeat (first | refine blk_drewN ?_ _ | refine blk_drew ?_ | refine blk_alloc ?_ _)); refine blk_put (cs := #[.int .i64 t199, .int .i64 t200, .int .i64 0, .string (⟨#[]⟩ : ByteArray), .int .i64 0]) ?_ 2 _ rfl; (with_reducible repeat (first | refine blk_drewN ?_ _ | refine blk_drew ?_ | refine blk_alloc ?_ _)); refine blk_put (cs := #[.int .i64 t199, .int .i64 0, .int .i64 0, .string (⟨#[]⟩ : ByteArray), .int .i64 0]) ?_ 1 _ rfl; (with_reducible repeat (first | refine blk_drewN ?_ _ | refine blk_drew ?_ | refine blk_alloc ?_ _)); refine blk_put (cs := #[.int .i64 0, .int .i64 0, .int .i64 0, .string (⟨#[]⟩ : ByteArray), .int .i64 0]) ?_ 0 _ rfl; (with_reducible repeat (first | refine blk_drewN ?_ _ | refine blk_drew ?_ | refine blk_alloc ?_ _)); exact BK205.out) k_ hk_)⟩)) (below_size (by repeat (first | (with_reducible first | exact HB.out | apply below_alloc | apply pw_below_drewN | apply below_drew1 | refine below_set ?_ GE205.out) | exact HB.out)))); have n2_ := Aside0.mk (blk_below (g := gb205) (o := .cells #[.int .i64 t199, .int .i64 t200, .int .i64 t201, .string t202, .int .i64 t203] 27 (0, 0)) (by (with_reducible repeat (first | refine blk_drewN ?_ _ | refine blk_drew ?_ | refine blk_alloc ?_ _)); refine blk_put (cs := #[.int .i64 t199, .int .i64 t200, .int .i64 t201, .string t202, .int .i64 0]) ?_ 4 _ rfl; (with_reducible repeat (first | refine blk_drewN ?_ _ | refine blk_drew ?_ | refine blk_alloc ?_ _)); refine blk_put (cs := #[.int .i64 t199, .int .i64 t200, .int .i64 t201, .string (⟨#[]⟩ : ByteArray), .int .i64 0]) ?_ 3 _ rfl; (with_reducible repeat (first | refine blk_drewN ?_ _ | refine blk_drew ?_ | refine blk_alloc ?_ _)); refine blk_put (cs := #[.int .i64 t199, .int .i64 t200, .int .i64 0, .string (⟨#[]⟩ : ByteArray), .int .i64 0]) ?_ 2 _ rfl; (with_reducible repeat (first | refine blk_drewN ?_ _ | refine blk_drew ?_ | refine blk_alloc ?_ _)); refine blk_put (cs := #[.int .i64 t199, .int .i64 0, .int .i64 0, .string (⟨#[]⟩ : ByteArray), .int .i64 0]) ?_ 1 _ rfl; (with_reducible repeat (first | refine blk_drewN ?_ _ | refine blk_drew ?_ | refine blk_alloc ?_ _)); refine blk_put (cs := #[.int .i64 0, .int .i64 0, .int .i64 0, .string (⟨#[]⟩ : ByteArray), .int .i64 0]) ?_ 0 _ rfl; (with_reducible repeat (first | refine blk_drewN ?_ _ | refine blk_drew ?_ | refine blk_alloc ?_ _)); exact BK205.out) hb); have n3_ := Aside0.mk (below_step (by repeat (first | (with_reducible first | exact HB.out | apply below_alloc | apply pw_below_drewN | apply below_drew1 | refine below_set ?_ GE205.out) | exact HB.out)) hb); clear HO198; clear BK205; clear HB; have HO198 := n0_; have HO208 := n1_; have BK205 := n2_; have HB := n3_; clear n0_ n1_ n2_ n3_; clear hb ho17; obtain ⟨Ao18, co18, eo18⟩ := Kd.V_slice HO208.out; subst eo18) | ((with_reducible refine gate_callee (f := 11) rfl ?_); refine goesL_ (some 25) rfl rfl Tryd.func11 (by kernel_rfl) rfl #[.slice Ao18 y206.length co18, .int .i64 0] rfl (by (try simp only [List.map_toArray, List.map_cons, List.map_nil]); first | done | rfl | (simp only [List.length_drop, List.length_take]; rfl)) ?_; (with_reducible refine (token_Next.calls k _ _ y206 0 t209 t210 t211 t212 t213 t214 _ ?side1 ?side2 ?side3 A5.out).mono ?_); (case side1 => exact Gl.below HG.out (by repeat (first | (with_reducible first | exact HB.out | apply below_alloc | apply pw_below_drewN | apply below_drew1 | refine below_set ?_ GE205.out) | exact HB.out))); (case side2 => repeat (first | exact (Kd.V_reads' HO208.out).2.2 | (with_reducible refine Kd.C_alloc ?_ _) | (with_reducible refine Kd.C_drewN ?_ _) | (with_reducible refine Kd.C_drew ?_))); (case side3 => exact (Kd.V_reads' HO208.out).2.1); rintro e w19 ⟨rfl, hb⟩; refine ⟨_, rfl, ?_⟩; have n0_ := Aside0.mk (Kd.R_below (by (with_reducible repeat (first | apply Kd.R_alloc | apply Kd.R_drewN | apply Kd.R_drew)); exact HO198.out) hb); have n1_ := Aside0.mk (Kd.V_below (by (with_reducible repeat (first | apply Kd.V_alloc | apply Kd.V_drewN | apply Kd.V_drew)); exact HO208.out) hb); have n2_ := Aside0.mk (blk_below (g := gb205) (o := .cells #[.int .i64 t199, .int .i64 t200, .int .i64 t201, .string t202, .int .i64 t203] 27 (0, 0)) (by (with_reducible repeat (first | refine blk_drewN ?_ _ | refine blk_drew ?_ | refine blk_alloc ?_ _)); exact BK205.out) hb); have n3_ := Aside0.mk (below_step (by repeat (first | (with_reducible first | exact HB.out | apply below_alloc | apply pw_below_drewN | apply below_drew1 | refine below_set ?_ GE205.out) | exact HB.out)) hb); clear HO198; clear HO208; clear BK205; clear HB; have HO198 := n0_; have HO208 := n1_; have BK205 := n2_; have HB := n3_; clear n0_ n1_ n2_ n3_; (try clear hb); (try clear hb2); (try clear hk); (try clear hi)) | ((with_reducible refine gate_dst (N := 8) rfl ?_); refine box_event ?hg (N := 8) ?hd (cs := #[.int .i64 0, .int .i64 0, .int .i64 0, .string (⟨#[]⟩ : ByteArray), .int .i64 0]) (t := 27) ?hr ?_; (case hd => rfl); (case hg => rfl); (case hr => first | (go_simp; done) | (go_simp; rfl)); intro gb215 hg w20 hbox hb; have n0_ := Aside0.mk (Kd.R_below (by (with_reducible repeat (first | apply Kd.R_alloc | apply Kd.R_drewN | apply Kd.R_drew)); exact HO198.out) hb); have n1_ := Aside0.mk (Kd.V_below (Kd.V_elderB (by (with_reducible repeat (first | apply Kd.V_alloc | apply Kd.V_drewN | apply Kd.V_drew)); exact HO208.out) gb215 (Nat.le_of_eq hg.symm)) hb); have n2_ := Aside0.mk (blk_below (g := gb205) (o := .cells #[.int .i64 t199, .int .i64 t200, .int .i64 t201, .string t202, .int .i64 t203] 27 (0, 0)) (by (with_reducible repeat (first | refine blk_drewN ?_ _ | refine blk_drew ?_ | refine blk_alloc ?_ _)); exact BK205.out) hb); have n3_ := Aside0.mk (below_step (by repeat (first | (with_reducible first | exact HB.out | apply below_alloc | apply pw_below_drewN | apply below_drew1 | refine below_set ?_ GE205.out) | exact HB.out)) hb); have n4_ := Aside0.mk (hbox); have n5_ := Aside0.mk ((by rw [hg]; exact (below_size (by repeat (first | (with_reducible first | exact HB.out | apply below_alloc | apply pw_below_drewN | apply below_drew1 | refine below_set ?_ GE205.out) | exact HB.out))) : w.heap.size ≤ gb215)); have n6_ := Aside0.mk ((by rw [hg]; exact (below_size (by repeat (first | (with_reducible first | exact HB.out | apply below_alloc | apply pw_below_drewN | apply below_drew1 | refine below_set ?_ GE205.out) | exact HB.out))) : w.heap.size ≤ gb215)); have n7_ := Aside0.mk ((by rw [hg]; exact Nat.ne_of_lt (blk_lt (g := gb205) (o := .cells #[.int .i64 t199, .int .i64 t200, .int .i64 t201, .string t202, .int .i64 t203] 27 (0, 0)) (by (with_reducible repeat (first | refine blk_drewN ?_ _ | refine blk_drew ?_ | refine blk_alloc ?_ _)); exact BK205.out)) : gb205 ≠ gb215)); have n8_ := Aside0.mk ((by rw [hg]; exact Nat.ne_of_gt (blk_lt (g := gb205) (o := .cells #[.int .i64 t199, .int .i64 t200, .int .i64 t201, .string t202, .int .i64 t203] 27 (0, 0)) (by (with_reducible repeat (first | refine blk_drewN ?_ _ | refine blk_drew ?_ | refine blk_alloc ?_ _)); exact BK205.out)) : gb215 ≠ gb205)); clear HO198; clear HO208; clear BK205; clear HB; have HO198 := n0_; have HO208 := n1_; have BK205 := n2_; have HB := n3_; have BK215 := n4_; have GW215 := n5_; have GE215 := n6_; have NB205_215 := n7_; have NB215_205 := n8_; clear n0_ n1_ n2_ n3_ n4_ n5_ n6_ n7_ n8_; clear hb hbox hg; have hnb21 := NB215_205.out; have hnc21 := NB205_215.out; have hcz22_0 : w20.cell? ⟨gb215, 0, none⟩ = some (.int .i64 0) := (blk_cell BK215.out 0).trans rfl; have hcz22_1 : w20.cell? ⟨gb215, 1, none⟩ = some (.int .i64 0) := (blk_cell BK215.out 1).trans rfl; have hcz22_2 : w20.cell? ⟨gb215, 2, none⟩ = some (.int .i64 0) := (blk_cell BK215.out 2).trans rfl; have hcz22_3 : w20.cell? ⟨gb215, 3, none⟩ = some (.string (⟨#[]⟩ : ByteArray)) := (blk_cell BK215.out 3).trans rfl; have hcz22_4 : w20.cell? ⟨gb215, 4, none⟩ = some (.int .i64 0) := (blk_cell BK215.out 4).trans rfl; have hfz22_0 := blk_frozen BK215.out 0; have hfz22_1 := blk_frozen BK215.out 1; have hfz22_2 := blk_frozen BK215.out 2; have hfz22_3 := blk_frozen BK215.out 3; have hfz22_4 := blk_frozen BK215.out 4) | ((with_reducible refine gate_dst (N := 30) rfl ?_); refine Kd.R_lit (Kd.int .u8) _ 5 ?hg (N := 30) ?hd (xs := ([46, 46, a0] : List Int)) (inner := [.int .u8 46, .int .u8 46, .int .u8 a0]) (ok := fun _ => True) (okp := fun _ => True) ?hr ?hp (fun _ hk => hk) trivial (Below.refl _ _) (Nat.le_refl _) (by simp) ?_; (case hd => rfl); (case hg => rfl); (case hr => first | (go_simp; done) | (go_simp; rfl)); (case hp => exact (Reps.one (show Kd.M (Kd.int .u8) _ _ _ 46 [.int .u8 46] from rfl) (Reps.one (show Kd.M (Kd.int .u8) _ _ _ 46 [.int .u8 46] from rfl) (Reps.one (show Kd.M (Kd.int .u8) _ _ _ a0 [.int .u8 a0] from rfl) (Reps.none _ _))))); intro v217 w23 ho24 hb hg_ hnew_; clear hg_ hnew_; (first | rw [← Ny216.out] at ho24 | (simp only [Int.reduceToNat] at ho24; rw [← Ny216.out] at ho24)); have n0_ := Aside0.mk (Kd.R_elder' (by (with_reducible repeat (first | apply Kd.R_alloc | apply Kd.R_drewN | apply Kd.R_drew)); exact (Kd.R_mono (Kd.R_far (p := ⟨gb215, 4, none⟩) (Kd.R_far (p := ⟨gb215, 3, none⟩) (Kd.R_far (p := ⟨gb215, 2, none⟩) (Kd.R_far (p := ⟨gb215, 1, none⟩) (Kd.R_far (p := ⟨gb215, 0, none⟩) (Kd.R_types HO198.out BK215.out (by decide)) (fun _ hk => hk.2) (.int .i64 t209)) (fun _ hk => hk.2) (.int .i64 t210)) (fun _ hk => hk.2) (.int .i64 t211)) (fun _ hk => hk.2) (.string t212)) (fun _ hk => hk.2) (.int .i64 t213)) (fun _ h_ => h_.1))) (Kd.R_base ho24) hb); have n1_ := Aside0.mk (Kd.V_elder' (by (with_reducible repeat (first | apply Kd.V_alloc | apply Kd.V_drewN | apply Kd.V_drew)); exact (Kd.V_mono (Kd.V_far (p := ⟨gb215, 4, none⟩) (Kd.V_far (p := ⟨gb215, 3, none⟩) (Kd.V_far (p := ⟨gb215, 2, none⟩) (Kd.V_far (p := ⟨gb215, 1, none⟩) (Kd.V_far (p := ⟨gb215, 0, none⟩) (Kd.V_mono HO208.out (fun k_ hk => (⟨hk, hk.2⟩ : _ ∧ k_ ≠ gb215))) (fun _ hk => hk.2) (.int .i64 t209)) (fun _ hk => hk.2) (.int .i64 t210)) (fun _ hk => hk.2) (.int .i64 t211)) (fun _ hk => hk.2) (.string t212)) (fun _ hk => hk.2) (.int .i64 t213)) (fun _ h_ => h_.1))) (Kd.R_base ho24) hb); have n2_ := Aside0.mk (Kd.R_lower (Kd.R_new' ho24 (Kd.R_lt (by (with_reducible repeat (first | apply Kd.R_alloc | apply Kd.R_drewN | apply Kd.R_drew)); exact (Kd.R_mono (Kd.R_far (p := ⟨gb215, 4, none⟩) (Kd.R_far (p := ⟨gb215, 3, none⟩) (Kd.R_far (p := ⟨gb215, 2, none⟩) (Kd.R_far (p := ⟨gb215, 1, none⟩) (Kd.R_far (p := ⟨gb215, 0, none⟩) (Kd.R_types HO198.out BK215.out (by decide)) (fun _ hk => hk.2) (.int .i64 t209)) (fun _ hk => hk.2) (.int .i64 t210)) (fun _ hk => hk.2) (.int .i64 t211)) (fun _ hk => hk.2) (.string t212)) (fun _ hk => hk.2) (.int .i64 t213)) (fun _ h_ => h_.1))))) (below_size (by repeat (first | (with_reducible first | exact HB.out | apply below_alloc | apply pw_below_drewN | apply below_drew1 | refine below_set ?_ GE205.out | refine below_set ?_ GE215.out) | exact HB.out)))); have n3_ := Aside0.mk (blk_below (g := gb205) (o := .cells #[.int .i64 t199, .int .i64 t200, .int .i64 t201, .string t202, .int .i64 t203] 27 (0, 0)) (by (with_reducible repeat (first | refine blk_drewN ?_ _ | refine blk_drew ?_ | refine blk_alloc ?_ _)); refine blk_far ?_ NB205_215.out _; (with_reducible repeat (first | refine blk_drewN ?_ _ | refine blk_drew ?_ | refine blk_alloc ?_ _)); refine blk_far ?_ NB205_215.out _; (with_reducible repeat (first | refine blk_drewN ?_ _ | refine blk_drew ?_ | refine blk_alloc ?_ _)); refine blk_far ?_ NB205_215.out _; (with_reducible repeat (first | refine blk_drewN ?_ _ | refine blk_drew ?_ | refine blk_alloc ?_ _)); refine blk_far ?_ NB205_215.out _; (with_reducible repeat (first | refine blk_drewN ?_ _ | refine blk_drew ?_ | refine blk_alloc ?_ _)); refine blk_far ?_ NB205_215.out _; (with_reducible repeat (first | refine blk_drewN ?_ _ | refine blk_drew ?_ | refine blk_alloc ?_ _)); exact BK205.out) hb); have n4_ := Aside0.mk (blk_below (g := gb215) (o := .cells #[.int .i64 t209, .int .i64 t210, .int .i64 t211, .string t212, .int .i64 t213] 27 (0, 0)) (by (with_reducible repeat (first | refine blk_drewN ?_ _ | refine blk_drew ?_ | refine blk_alloc ?_ _)); refine blk_put (cs := #[.int .i64 t209, .int .i64 t210, .int .i64 t211, .string t212, .int .i64 0]) ?_ 4 _ rfl; (with_reducible repeat (first | refine blk_drewN ?_ _ | refine blk_drew ?_ | refine blk_alloc ?_ _)); refine blk_put (cs := #[.int .i64 t209, .int .i64 t210, .int .i64 t211, .string (⟨#[]⟩ : ByteArray), .int .i64 0]) ?_ 3 _ rfl; (with_reducible repeat (first | refine blk_drewN ?_ _ | refine blk_drew ?_ | refine blk_alloc ?_ _)); refine blk_put (cs := #[.int .i64 t209, .int .i64 t210, .int .i64 0, .string (⟨#[]⟩ : ByteArray), .int .i64 0]) ?_ 2 _ rfl; (with_reducible repeat (first | refine blk_drewN ?_ _ | refine blk_drew ?_ | refine blk_alloc ?_ _)); refine blk_put (cs := #[.int .i64 t209, .int .i64 0, .int .i64 0, .string (⟨#[]⟩ : ByteArray), .int .i64 0]) ?_ 1 _ rfl; (with_reducible repeat (first | refine blk_drewN ?_ _ | refine blk_drew ?_ | refine blk_alloc ?_ _)); refine blk_put (cs := #[.int .i64 0, .int .i64 0, .int .i64 0, .string (⟨#[]⟩ : ByteArray), .int .i64 0]) ?_ 0 _ rfl; (with_reducible repeat (first | refine blk_drewN ?_ _ | refine blk_drew ?_ | refine blk_alloc ?_ _)); exact BK215.out) hb); have n5_ := Aside0.mk (below_step (by repeat (first | (with_reducible first | exact HB.out | apply below_alloc | apply pw_below_drewN | apply below_drew1 | refine below_set ?_ GE205.out | refine below_set ?_ GE215.out) | exact HB.out)) hb); clear HO198; clear HO208; clear BK205; clear BK215; clear HB; have HO198 := n0_; have HO208 := n1_; have HO218 := n2_; have BK205 := n3_; have BK215 := n4_; have HB := n5_; clear n0_ n1_ n2_ n3_ n4_ n5_; clear hb ho24; obtain ⟨Ao25, co25, eo25⟩ := Kd.R_slice HO218.out; subst eo25) | ((with_reducible refine gate_callee (f := 11) rfl ?_); refine goesL_ (some 31) rfl rfl Tryd.func11 (by kernel_rfl) rfl #[.slice Ao25 y216.length co25, .int .i64 0] rfl (by (try simp only [List.map_toArray, List.map_cons, List.map_nil]); first | done | rfl | (simp only [List.length_drop, List.length_take]; rfl)) ?_; (with_reducible refine (token_Next.calls k _ _ y216 0 t219 t220 t221 t222 t223 t224 _ ?side1 ?side2 ?side3 A6.out).mono ?_); (case side1 => exact Gl.below HG.out (by repeat (first | (with_reducible first | exact HB.out | apply below_alloc | apply pw_below_drewN | apply below_drew1 | refine below_set ?_ GE205.out | refine below_set ?_ GE215.out) | exact HB.out))); (case side2 => repeat (first | exact (Kd.R_reads' HO218.out).2.2 | (with_reducible refine Kd.C_alloc ?_ _) | (with_reducible refine Kd.C_drewN ?_ _) | (with_reducible refine Kd.C_drew ?_))); (case side3 => exact (Kd.R_reads' HO218.out).2.1); rintro e w26 ⟨rfl, hb⟩; refine ⟨_, rfl, ?_⟩; have n0_ := Aside0.mk (Kd.R_below (by (with_reducible repeat (first | apply Kd.R_alloc | apply Kd.R_drewN | apply Kd.R_drew)); exact HO198.out) hb); have n1_ := Aside0.mk (Kd.V_below (by (with_reducible repeat (first | apply Kd.V_alloc | apply Kd.V_drewN | apply Kd.V_drew)); exact HO208.out) hb); have n2_ := Aside0.mk (Kd.R_below (by (with_reducible repeat (first | apply Kd.R_alloc | apply Kd.R_drewN | apply Kd.R_drew)); exact HO218.out) hb); have n3_ := Aside0.mk (blk_below (g := gb205) (o := .cells #[.int .i64 t199, .int .i64 t200, .int .i64 t201, .string t202, .int .i64 t203] 27 (0, 0)) (by (with_reducible repeat (first | refine blk_drewN ?_ _ | refine blk_drew ?_ | refine blk_alloc ?_ _)); exact BK205.out) hb); have n4_ := Aside0.mk (blk_below (g := gb215) (o := .cells #[.int .i64 t209, .int .i64 t210, .int .i64 t211, .string t212, .int .i64 t213] 27 (0, 0)) (by (with_reducible repeat (first | refine blk_drewN ?_ _ | refine blk_drew ?_ | refine blk_alloc ?_ _)); exact BK215.out) hb); have n5_ := Aside0.mk (below_step (by repeat (first | (with_reducible first | exact HB.out | apply below_alloc | apply pw_below_drewN | apply below_drew1 | refine below_set ?_ GE205.out | refine below_set ?_ GE215.out) | exact HB.out)) hb); clear HO198; clear HO208; clear HO218; clear BK205; clear BK215; clear HB; have HO198 := n0_; have HO208 := n1_; have HO218 := n2_; have BK205 := n3_; have BK215 := n4_; have HB := n5_; clear n0_ n1_ n2_ n3_ n4_ n5_; (try clear hb); (try clear hb2); (try clear hk); (try clear hi)) | ((with_reducible refine gate_dst (N := 10) rfl ?_); refine box_event ?hg (N := 10) ?hd (cs := #[.int .i64 0, .int .i64 0, .int .i64 0, .string (⟨#[]⟩ : ByteArray), .int .i64 0]) (t := 27) ?hr ?_; (case hd => rfl); (case hg => rfl); (case hr => first | (go_simp; done) | (go_simp; rfl)); intro gb225 hg w27 hbox hb; have n0_ := Aside0.mk (Kd.R_below (by (with_reducible repeat (first | apply Kd.R_alloc | apply Kd.R_drewN | apply Kd.R_drew)); exact HO198.out) hb); have n1_ := Aside0.mk (Kd.V_below (Kd.V_elderB (by (with_reducible repeat (first | apply Kd.V_alloc | apply Kd.V_drewN | apply Kd.V_drew)); exact HO208.out) gb225 (Nat.le_of_eq hg.symm)) hb); have n2_ := Aside0.mk (Kd.R_below (by (with_reducible repeat (first | apply Kd.R_alloc | apply Kd.R_drewN | apply Kd.R_drew)); exact HO218.out) hb); have n3_ := Aside0.mk (blk_below (g := gb205) (o := .cells #[.int .i64 t199, .int .i64 t200, .int .i64 t201, .string t202, .int .i64 t203] 27 (0, 0)) (by (with_reducible repeat (first | refine blk_drewN ?_ _ | refine blk_drew ?_ | refine blk_alloc ?_ _)); exact BK205.out) hb); have n4_ := Aside0.mk (blk_below (g := gb215) (o := .cells #[.int .i64 t209, .int .i64 t210, .int .i64 t211, .string t212, .int .i64 t213] 27 (0, 0)) (by (with_reducible repeat (first | refine blk_drewN ?_ _ | refine blk_drew ?_ | refine blk_alloc ?_ _)); exact BK215.out) hb); have n5_ := Aside0.mk (below_step (by repeat (first | (with_reducible first | exact HB.out | apply below_alloc | apply pw_below_drewN | apply below_drew1 | refine below_set ?_ GE205.out | refine below_set ?_ GE215.out) | exact HB.out)) hb); have n6_ := Aside0.mk (hbox); have n7_ := Aside0.mk ((by rw [hg]; exact (below_size (by repeat (first | (with_reducible first | exact HB.out | apply below_alloc | apply pw_below_drewN | apply below_drew1 | refine below_set ?_ GE205.out | refine below_set ?_ GE215.out) | exact HB.out))) : w.heap.size ≤ gb225)); have n8_ := Aside0.mk ((by rw [hg]; exact (below_size (by repeat (first | (with_reducible first | exact HB.out | apply below_alloc | apply pw_below_drewN | apply below_drew1 | refine below_set ?_ GE205.out | refine below_set ?_ GE215.out) | exact HB.out))) : w.heap.size ≤ gb225)); have n9_ := Aside0.mk ((by rw [hg]; exact Nat.ne_of_lt (blk_lt (g := gb205) (o := .cells #[.int .i64 t199, .int .i64 t200, .int .i64 t201, .string t202, .int .i64 t203] 27 (0, 0)) (by (with_reducible repeat (first | refine blk_drewN ?_ _ | refine blk_drew ?_ | refine blk_alloc ?_ _)); exact BK205.out)) : gb205 ≠ gb225)); have n10_ := Aside0.mk ((by rw [hg]; exact Nat.ne_of_gt (blk_lt (g := gb205) (o := .cells #[.int .i64 t199, .int .i64 t200, .int .i64 t201, .string t202, .int .i64 t203] 27 (0, 0)) (by (with_reducible repeat (first | refine blk_drewN ?_ _ | refine blk_drew ?_ | refine blk_alloc ?_ _)); exact BK205.out)) : gb225 ≠ gb205)); have n11_ := Aside0.mk ((by rw [hg]; exact Nat.ne_of_lt (blk_lt (g := gb215) (o := .cells #[.int .i64 t209, .int .i64 t210, .int .i64 t211, .string t212, .int .i64 t213] 27 (0, 0)) (by (with_reducible repeat (first | refine blk_drewN ?_ _ | refine blk_drew ?_ | refine blk_alloc ?_ _)); exact BK215.out)) : gb215 ≠ gb225)); have n12_ := Aside0.mk ((by rw [hg]; exact Nat.ne_of_gt (blk_lt (g := gb215) (o := .cells #[.int .i64 t209, .int .i64 t210, .int .i64 t211, .string t212, .int .i64 t213] 27 (0, 0)) (by (with_reducible repeat (first | refine blk_drewN ?_ _ | refine blk_drew ?_ | refine blk_alloc ?_ _)); exact BK215.out)) : gb225 ≠ gb215)); clear HO198; clear HO208; clear HO218; clear BK205; clear BK215; clear HB; have HO198 := n0_; have HO208 := n1_; have HO218 := n2_; have BK205 := n3_; have BK215 := n4_; have HB := n5_; have BK225 := n6_; have GW225 := n7_; have GE225 := n8_; have NB205_225 := n9_; have NB225_205 := n10_; have NB215_225 := n11_; have NB225_215 := n12_; clear n0_ n1_ n2_ n3_ n4_ n5_ n6_ n7_ n8_ n9_ n10_ n11_ n12_; clear hb hbox hg; have hnb28 := NB225_205.out; have hnc28 := NB205_225.out; have hnb29 := NB225_215.out; have hnc29 := NB215_225.out; have hcz30_0 : w27.cell? ⟨gb225, 0, none⟩ = some (.int .i64 0) := (blk_cell BK225.out 0).trans rfl; have hcz30_1 : w27.cell? ⟨gb225, 1, none⟩ = some (.int .i64 0) := (blk_cell BK225.out 1).trans rfl; have hcz30_2 : w27.cell? ⟨gb225, 2, none⟩ = some (.int .i64 0) := (blk_cell BK225.out 2).trans rfl; have hcz30_3 : w27.cell? ⟨gb225, 3, none⟩ = some (.string (⟨#[]⟩ : ByteArray)) := (blk_cell BK225.out 3).trans rfl; have hcz30_4 : w27.cell? ⟨gb225, 4, none⟩ = some (.int .i64 0) := (blk_cell BK225.out 4).trans rfl; have hfz30_0 := blk_frozen BK225.out 0; have hfz30_1 := blk_frozen BK225.out 1; have hfz30_2 := blk_frozen BK225.out 2; have hfz30_3 := blk_frozen BK225.out 3; have hfz30_4 := blk_frozen BK225.out 4) | ((with_reducible refine gate_dst (N := 36) rfl ?_); refine Kd.R_lit (Kd.int .u8) _ 5 ?hg (N := 36) ?hd (xs := ([a1, 46] : List Int)) (inner := [.int .u8 a1, .int .u8 46]) (ok := fun _ => True) (okp := fun _ => True) ?hr ?hp (fun _ hk => hk) trivial (Below.refl _ _) (Nat.le_refl _) (by simp) ?_; (case hd => rfl); (case hg => rfl); (case hr => first | (go_simp; done) | (go_simp; rfl)); (case hp => exact (Reps.one (show Kd.M (Kd.int .u8) _ _ _ a1 [.int .u8 a1] from rfl) (Reps.one (show Kd.M (Kd.int .u8) _ _ _ 46 [.int .u8 46] from rfl) (Reps.none _ _)))); intro v227 w31 ho32 hb hg_ hnew_; clear hg_ hnew_; (first | rw [← Ny226.out] at ho32 | (simp only [Int.reduceToNat] at ho32; rw [← Ny226.out] at ho32)); have n0_ := Aside0.mk (Kd.R_elder' (by (with_reducible repeat (first | apply Kd.R_alloc | apply Kd.R_drewN | apply Kd.R_drew)); exact (Kd.R_mono (Kd.R_far (p := ⟨gb225, 4, none⟩) (Kd.R_far (p := ⟨gb225, 3, none⟩) (Kd.R_far (p := ⟨gb225, 2, none⟩) (Kd.R_far (p := ⟨gb225, 1, none⟩) (Kd.R_far (p := ⟨gb225, 0, none⟩) (Kd.R_types HO198.out BK225.out (by decide)) (fun _ hk => hk.2) (.int .i64 t219)) (fun _ hk => hk.2) (.int .i64 t220)) (fun _ hk => hk.2) (.int .i64 t221)) (fun _ hk => hk.2) (.string t222)) (fun _ hk => hk.2) (.int .i64 t223)) (fun _ h_ => h_.1))) (Kd.R_base ho32) hb); have n1_ := Aside0.mk (Kd.V_elder' (by (with_reducible repeat (first | apply Kd.V_alloc | apply Kd.V_drewN | apply Kd.V_drew)); exact (Kd.V_mono (Kd.V_far (p := ⟨gb225, 4, none⟩) (Kd.V_far (p := ⟨gb225, 3, none⟩) (Kd.V_far (p := ⟨gb225, 2, none⟩) (Kd.V_far (p := ⟨gb225, 1, none⟩) (Kd.V_far (p := ⟨gb225, 0, none⟩) (Kd.V_mono HO208.out (fun k_ hk => (⟨hk, hk.2⟩ : _ ∧ k_ ≠ gb225))) (fun _ hk => hk.2) (.int .i64 t219)) (fun _ hk => hk.2) (.int .i64 t220)) (fun _ hk => hk.2) (.int .i64 t221)) (fun _ hk => hk.2) (.string t222)) (fun _ hk => hk.2) (.int .i64 t223)) (fun _ h_ => h_.1))) (Kd.R_base ho32) hb); have n2_ := Aside0.mk (Kd.R_elder' (by (with_reducible repeat (first | apply Kd.R_alloc | apply Kd.R_drewN | apply Kd.R_drew)); exact (Kd.R_mono (Kd.R_far (p := ⟨gb225, 4, none⟩) (Kd.R_far (p := ⟨gb225, 3, none⟩) (Kd.R_far (p := ⟨gb225, 2, none⟩) (Kd.R_far (p := ⟨gb225, 1, none⟩) (Kd.R_far (p := ⟨gb225, 0, none⟩) (Kd.R_types HO218.out BK225.out (by decide)) (fun _ hk => hk.2) (.int .i64 t219)) (fun _ hk => hk.2) (.int .i64 t220)) (fun _ hk => hk.2) (.int .i64 t221)) (fun _ hk => hk.2) (.string t222)) (fun _ hk => hk.2) (.int .i64 t223)) (fun _ h_ => h_.1))) (Kd.R_base ho32) hb); have n3_ := Aside0.mk (Kd.R_lower (Kd.R_new' (Kd.R_new' ho32 (Kd.R_lt (by (with_reducible repeat (first | apply Kd.R_alloc | apply Kd.R_drewN | apply Kd.R_drew)); exact (Kd.R_mono (Kd.R_far (p := ⟨gb225, 4, none⟩) (Kd.R_far (p := ⟨gb225, 3, none⟩) (Kd.R_far (p := ⟨gb225, 2, none⟩) (Kd.R_far (p := ⟨gb225, 1, none⟩) (Kd.R_far (p := ⟨gb225, 0, none⟩) (Kd.R_types HO198.out BK225.out (by decide)) (fun _ hk => hk.2) (.int .i64 t219)) (fun _ hk => hk.2) (.int .i64 t220)) (fun _ hk => hk.2) (.int .i64 t221)) (fun _ hk => hk.2) (.string t222)) (fun _ hk => hk.2) (.int .i64 t223)) (fun _ h_ => h_.1))))) (Kd.R_lt (by (with_reducible repeat (first | apply Kd.R_alloc | apply Kd.R_drewN | apply Kd.R_drew)); exact (Kd.R_mono (Kd.R_far (p := ⟨gb225, 4, none⟩) (Kd.R_far (p := ⟨gb225, 3, none⟩) (Kd.R_far (p := ⟨gb225, 2, none⟩) (Kd.R_far (p := ⟨gb225, 1, none⟩) (Kd.R_far (p := ⟨gb225, 0, none⟩) (Kd.R_types HO218.out BK225.out (by decide)) (fun _ hk => hk.2) (.int .i64 t219)) (fun _ hk => hk.2) (.int .i64 t220)) (fun _ hk => hk.2) (.int .i64 t221)) (fun _ hk => hk.2) (.string t222)) (fun _ hk => hk.2) (.int .i64 t223)) (fun _ h_ => h_.1))))) (below_size (by repeat (first | (with_reducible first | exact HB.out | apply below_alloc | apply pw_below_drewN | apply below_drew1 | refine below_set ?_ GE205.out | refine below_set ?_ GE215.out | refine below_set ?_ GE225.out) | exact HB.out)))); have n4_ := Aside0.mk (blk_below (g := gb205) (o := .cells #[.int .i64 t199, .int .i64 t200, .int .i64 t201, .string t202, .int .i64 t203] 27 (0, 0)) (by (with_reducible repeat (first | refine blk_drewN ?_ _ | refine blk_drew ?_ | refine blk_alloc ?_ _)); refine blk_far ?_ NB205_225.out _; (with_reducible repeat (first | refine blk_drewN ?_ _ | refine blk_drew ?_ | refine blk_alloc ?_ _)); refine blk_far ?_ NB205_225.out _; (with_reducible repeat (first | refine blk_drewN ?_ _ | refine blk_drew ?_ | refine blk_alloc ?_ _)); refine blk_far ?_ NB205_225.out _; (with_reducible repeat (first | refine blk_drewN ?_ _ | refine blk_drew ?_ | refine blk_alloc ?_ _)); refine blk_far ?_ NB205_225.out _; (with_reducible repeat (first | refine blk_drewN ?_ _ | refine blk_drew ?_ | refine blk_alloc ?_ _)); refine blk_far ?_ NB205_225.out _; (with_reducible repeat (first | refine blk_drewN ?_ _ | refine blk_drew ?_ | refine blk_alloc ?_ _)); exact BK205.out) hb); have n5_ := Aside0.mk (blk_below (g := gb215) (o := .cells #[.int .i64 t209, .int .i64 t210, .int .i64 t211, .string t212, .int .i64 t213] 27 (0, 0)) (by (with_reducible repeat (first | refine blk_drewN ?_ _ | refine blk_drew ?_ | refine blk_alloc ?_ _)); refine blk_far ?_ NB215_225.out _; (with_reducible repeat (first | refine blk_drewN ?_ _ | refine blk_drew ?_ | refine blk_alloc ?_ _)); refine blk_far ?_ NB215_225.out _; (with_reducible repeat (first | refine blk_drewN ?_ _ | refine blk_drew ?_ | refine blk_alloc ?_ _)); refine blk_far ?_ NB215_225.out _; (with_reducible repeat (first | refine blk_drewN ?_ _ | refine blk_drew ?_ | refine blk_alloc ?_ _)); refine blk_far ?_ NB215_225.out _; (with_reducible repeat (first | refine blk_drewN ?_ _ | refine blk_drew ?_ | refine blk_alloc ?_ _)); refine blk_far ?_ NB215_225.out _; (with_reducible repeat (first | refine blk_drewN ?_ _ | refine blk_drew ?_ | refine blk_alloc ?_ _)); exact BK215.out) hb); have n6_ := Aside0.mk (blk_below (g := gb225) (o := .cells #[.int .i64 t219, .int .i64 t220, .int .i64 t221, .string t222, .int .i64 t223] 27 (0, 0)) (by (with_reducible repeat (first | refine blk_drewN ?_ _ | refine blk_drew ?_ | refine blk_alloc ?_ _)); refine blk_put (cs := #[.int .i64 t219, .int .i64 t220, .int .i64 t221, .string t222, .int .i64 0]) ?_ 4 _ rfl; (with_reducible repeat (first | refine blk_drewN ?_ _ | refine blk_drew ?_ | refine blk_alloc ?_ _)); refine blk_put (cs := #[.int .i64 t219, .int .i64 t220, .int .i64 t221, .string (⟨#[]⟩ : ByteArray), .int .i64 0]) ?_ 3 _ rfl; (with_reducible repeat (first | refine blk_drewN ?_ _ | refine blk_drew ?_ | refine blk_alloc ?_ _)); refine blk_put (cs := #[.int .i64 t219, .int .i64 t220, .int .i64 0, .string (⟨#[]⟩ : ByteArray), .int .i64 0]) ?_ 2 _ rfl; (with_reducible repeat (first | refine blk_drewN ?_ _ | refine blk_drew ?_ | refine blk_alloc ?_ _)); refine blk_put (cs := #[.int .i64 t219, .int .i64 0, .int .i64 0, .string (⟨#[]⟩ : ByteArray), .int .i64 0]) ?_ 1 _ rfl; (with_reducible repeat (first | refine blk_drewN ?_ _ | refine blk_drew ?_ | refine blk_alloc ?_ _)); refine blk_put (cs := #[.int .i64 0, .int .i64 0, .int .i64 0, .string (⟨#[]⟩ : ByteArray), .int .i64 0]) ?_ 0 _ rfl; (with_reducible repeat (first | refine blk_drewN ?_ _ | refine blk_drew ?_ | refine blk_alloc ?_ _)); exact BK225.out) hb); have n7_ := Aside0.mk (below_step (by repeat (first | (with_reducible first | exact HB.out | apply below_alloc | apply pw_below_drewN | apply below_drew1 | refine below_set ?_ GE205.out | refine below_set ?_ GE215.out | refine below_set ?_ GE225.out) | exact HB.out)) hb); clear HO198; clear HO208; clear HO218; clear BK205; clear BK215; clear BK225; clear HB; have HO198 := n0_; have HO208 := n1_; have HO218 := n2_; have HO228 := n3_; have BK205 := n4_; have BK215 := n5_; have BK225 := n6_; have HB := n7_; clear n0_ n1_ n2_ n3_ n4_ n5_ n6_ n7_; clear hb ho32; obtain ⟨Ao33, co33, eo33⟩ := Kd.R_slice HO228.out; subst eo33) | ((with_reducible refine gate_callee (f := 11) rfl ?_); refine goesL_ (some 37) rfl rfl Tryd.func11 (by kernel_rfl) rfl #[.slice Ao33 y226.length co33, .int .i64 1] rfl (by (try simp only [List.map_toArray, List.map_cons, List.map_nil]); first | done | rfl | (simp only [List.length_drop, List.length_take]; rfl)) ?_; (with_reducible refine (token_Next.calls k _ _ y226 1 t229 t230 t231 t232 t233 t234 _ ?side1 ?side2 ?side3 A7.out).mono ?_); (case side1 => exact Gl.below HG.out (by repeat (first | (with_reducible first | exact HB.out | apply below_alloc | apply pw_below_drewN | apply below_drew1 | refine below_set ?_ GE205.out | refine below_set ?_ GE215.out | refine below_set ?_ GE225.out) | exact HB.out))); (case side2 => repeat (first | exact (Kd.R_reads' HO228.out).2.2 | (with_reducible refine Kd.C_alloc ?_ _) | (with_reducible refine Kd.C_drewN ?_ _) | (with_reducible refine Kd.C_drew ?_))); (case side3 => exact (Kd.R_reads' HO228.out).2.1); rintro e w34 ⟨rfl, hb⟩; refine ⟨_, rfl, ?_⟩; have n0_ := Aside0.mk (Kd.R_below (by (with_reducible repeat (first | apply Kd.R_alloc | apply Kd.R_drewN | apply Kd.R_drew)); exact HO198.out) hb); have n1_ := Aside0.mk (Kd.V_below (by (with_reducible repeat (first | apply Kd.V_alloc | apply Kd.V_drewN | apply Kd.V_drew)); exact HO208.out) hb); have n2_ := Aside0.mk (Kd.R_below (by (with_reducible repeat (first | apply Kd.R_alloc | apply Kd.R_drewN | apply Kd.R_drew)); exact HO218.out) hb); have n3_ := Aside0.mk (Kd.R_below (by (with_reducible repeat (first | apply Kd.R_alloc | apply Kd.R_drewN | apply Kd.R_drew)); exact HO228.out) hb); have n4_ := Aside0.mk (blk_below (g := gb205) (o := .cells #[.int .i64 t199, .int .i64 t200, .int .i64 t201, .string t202, .int .i64 t203] 27 (0, 0)) (by (with_reducible repeat (first | refine blk_drewN ?_ _ | refine blk_drew ?_ | refine blk_alloc ?_ _)); exact BK205.out) hb); have n5_ := Aside0.mk (blk_below (g := gb215) (o := .cells #[.int .i64 t209, .int .i64 t210, .int .i64 t211, .string t212, .int .i64 t213] 27 (0, 0)) (by (with_reducible repeat (first | refine blk_drewN ?_ _ | refine blk_drew ?_ | refine blk_alloc ?_ _)); exact BK215.out) hb); have n6_ := Aside0.mk (blk_below (g := gb225) (o := .cells #[.int .i64 t219, .int .i64 t220, .int .i64 t221, .string t222, .int .i64 t223] 27 (0, 0)) (by (with_reducible repeat (first | refine blk_drewN ?_ _ | refine blk_drew ?_ | refine blk_alloc ?_ _)); exact BK225.out) hb); have n7_ := Aside0.mk (below_step (by repeat (first | (with_reducible first | exact HB.out | apply below_alloc | apply pw_below_drewN | apply below_drew1 | refine below_set ?_ GE205.out | refine below_set ?_ GE215.out | refine below_set ?_ GE225.out) | exact HB.out)) hb); clear HO198; clear HO208; clear HO218; clear HO228; clear BK205; clear BK215; clear BK225; clear HB; have HO198 := n0_; have HO208 := n1_; have HO218 := n2_; have HO228 := n3_; have BK205 := n4_; have BK215 := n5_; have BK225 := n6_; have HB := n7_; clear n0_ n1_ n2_ n3_ n4_ n5_ n6_ n7_; (try clear hb); (try clear hb2); (try clear hk); (try clear hi)) | ((with_reducible refine gate_dst (N := 12) rfl ?_); refine box_event ?hg (N := 12) ?hd (cs := #[.int .i64 0, .int .i64 0, .int .i64 0, .string (⟨#[]⟩ : ByteArray), .int .i64 0]) (t := 27) ?hr ?_; (case hd => rfl); (case hg => rfl); (case hr => first | (go_simp; done) | (go_simp; rfl)); intro gb235 hg w35 hbox hb; have n0_ := Aside0.mk (Kd.R_below (by (with_reducible repeat (first | apply Kd.R_alloc | apply Kd.R_drewN | apply Kd.R_drew)); exact HO198.out) hb); have n1_ := Aside0.mk (Kd.V_below (Kd.V_elderB (by (with_reducible repeat (first | apply Kd.V_alloc | apply Kd.V_drewN | apply Kd.V_drew)); exact HO208.out) gb235 (Nat.le_of_eq hg.symm)) hb); have n2_ := Aside0.mk (Kd.R_below (by (with_reducible repeat (first | apply Kd.R_alloc | apply Kd.R_drewN | apply Kd.R_drew)); exact HO218.out) hb); have n3_ := Aside0.mk (Kd.R_below (by (with_reducible repeat (first | apply Kd.R_alloc | apply Kd.R_drewN | apply Kd.R_drew)); exact HO228.out) hb); have n4_ := Aside0.mk (blk_below (g := gb205) (o := .cells #[.int .i64 t199, .int .i64 t200, .int .i64 t201, .string t202, .int .i64 t203] 27 (0, 0)) (by (with_reducible repeat (first | refine blk_drewN ?_ _ | refine blk_drew ?_ | refine blk_alloc ?_ _)); exact BK205.out) hb); have n5_ := Aside0.mk (blk_below (g := gb215) (o := .cells #[.int .i64 t209, .int .i64 t210, .int .i64 t211, .string t212, .int .i64 t213] 27 (0, 0)) (by (with_reducible repeat (first | refine blk_drewN ?_ _ | refine blk_drew ?_ | refine blk_alloc ?_ _)); exact BK215.out) hb); have n6_ := Aside0.mk (blk_below (g := gb225) (o := .cells #[.int .i64 t219, .int .i64 t220, .int .i64 t221, .string t222, .int .i64 t223] 27 (0, 0)) (by (with_reducible repeat (first | refine blk_drewN ?_ _ | refine blk_drew ?_ | refine blk_alloc ?_ _)); exact BK225.out) hb); have n7_ := Aside0.mk (below_step (by repeat (first | (with_reducible first | exact HB.out | apply below_alloc | apply pw_below_drewN | apply below_drew1 | refine below_set ?_ GE205.out | refine below_set ?_ GE215.out | refine below_set ?_ GE225.out) | exact HB.out)) hb); have n8_ := Aside0.mk (hbox); have n9_ := Aside0.mk ((by rw [hg]; exact (below_size (by repeat (first | (with_reducible first | exact HB.out | apply below_alloc | apply pw_below_drewN | apply below_drew1 | refine below_set ?_ GE205.out | refine below_set ?_ GE215.out | refine below_set ?_ GE225.out) | exact HB.out))) : w.heap.size ≤ gb235)); have n10_ := Aside0.mk ((by rw [hg]; exact (below_size (by repeat (first | (with_reducible first | exact HB.out | apply below_alloc | apply pw_below_drewN | apply below_drew1 | refine below_set ?_ GE205.out | refine below_set ?_ GE215.out | refine below_set ?_ GE225.out) | exact HB.out))) : w.heap.size ≤ gb235)); have n11_ := Aside0.mk ((by rw [hg]; exact Nat.ne_of_lt (blk_lt (g := gb205) (o := .cells #[.int .i64 t199, .int .i64 t200, .int .i64 t201, .string t202, .int .i64 t203] 27 (0, 0)) (by (with_reducible repeat (first | refine blk_drewN ?_ _ | refine blk_drew ?_ | refine blk_alloc ?_ _)); exact BK205.out)) : gb205 ≠ gb235)); have n12_ := Aside0.mk ((by rw [hg]; exact Nat.ne_of_gt (blk_lt (g := gb205) (o := .cells #[.int .i64 t199, .int .i64 t200, .int .i64 t201, .string t202, .int .i64 t203] 27 (0, 0)) (by (with_reducible repeat (first | refine blk_drewN ?_ _ | refine blk_drew ?_ | refine blk_alloc ?_ _)); exact BK205.out)) : gb235 ≠ gb205)); have n13_ := Aside0.mk ((by rw [hg]; exact Nat.ne_of_lt (blk_lt (g := gb215) (o := .cells #[.int .i64 t209, .int .i64 t210, .int .i64 t211, .string t212, .int .i64 t213] 27 (0, 0)) (by (with_reducible repeat (first | refine blk_drewN ?_ _ | refine blk_drew ?_ | refine blk_alloc ?_ _)); exact BK215.out)) : gb215 ≠ gb235)); have n14_ := Aside0.mk ((by rw [hg]; exact Nat.ne_of_gt (blk_lt (g := gb215) (o := .cells #[.int .i64 t209, .int .i64 t210, .int .i64 t211, .string t212, .int .i64 t213] 27 (0, 0)) (by (with_reducible repeat (first | refine blk_drewN ?_ _ | refine blk_drew ?_ | refine blk_alloc ?_ _)); exact BK215.out)) : gb235 ≠ gb215)); have n15_ := Aside0.mk ((by rw [hg]; exact Nat.ne_of_lt (blk_lt (g := gb225) (o := .cells #[.int .i64 t219, .int .i64 t220, .int .i64 t221, .string t222, .int .i64 t223] 27 (0, 0)) (by (with_reducible repeat (first | refine blk_drewN ?_ _ | refine blk_drew ?_ | refine blk_alloc ?_ _)); exact BK225.out)) : gb225 ≠ gb235)); have n16_ := Aside0.mk ((by rw [hg]; exact Nat.ne_of_gt (blk_lt (g := gb225) (o := .cells #[.int .i64 t219, .int .i64 t220, .int .i64 t221, .string t222, .int .i64 t223] 27 (0, 0)) (by (with_reducible repeat (first | refine blk_drewN ?_ _ | refine blk_drew ?_ | refine blk_alloc ?_ _)); exact BK225.out)) : gb235 ≠ gb225)); clear HO198; clear HO208; clear HO218; clear HO228; clear BK205; clear BK215; clear BK225; clear HB; have HO198 := n0_; have HO208 := n1_; have HO218 := n2_; have HO228 := n3_; have BK205 := n4_; have BK215 := n5_; have BK225 := n6_; have HB := n7_; have BK235 := n8_; have GW235 := n9_; have GE235 := n10_; have NB205_235 := n11_; have NB235_205 := n12_; have NB215_235 := n13_; have NB235_215 := n14_; have NB225_235 := n15_; have NB235_225 := n16_; clear n0_ n1_ n2_ n3_ n4_ n5_ n6_ n7_ n8_ n9_ n10_ n11_ n12_ n13_ n14_ n15_ n16_; clear hb hbox hg; have hnb36 := NB235_205.out; have hnc36 := NB205_235.out; have hnb37 := NB235_215.out; have hnc37 := NB215_235.out; have hnb38 := NB235_225.out; have hnc38 := NB225_235.out; have hcz39_0 : w35.cell? ⟨gb235, 0, none⟩ = some (.int .i64 0) := (blk_cell BK235.out 0).trans rfl; have hcz39_1 : w35.cell? ⟨gb235, 1, none⟩ = some (.int .i64 0) := (blk_cell BK235.out 1).trans rfl; have hcz39_2 : w35.cell? ⟨gb235, 2, none⟩ = some (.int .i64 0) := (blk_cell BK235.out 2).trans rfl; have hcz39_3 : w35.cell? ⟨gb235, 3, none⟩ = some (.string (⟨#[]⟩ : ByteArray)) := (blk_cell BK235.out 3).trans rfl; have hcz39_4 : w35.cell? ⟨gb235, 4, none⟩ = some (.int .i64 0) := (blk_cell BK235.out 4).trans rfl; have hfz39_0 := blk_frozen BK235.out 0; have hfz39_1 := blk_frozen BK235.out 1; have hfz39_2 := blk_frozen BK235.out 2; have hfz39_3 := blk_frozen BK235.out 3; have hfz39_4 := blk_frozen BK235.out 4))
 (try simp only [Act.put, List.setIfInBounds_toArray, List.set_cons_zero, List.set_cons_succ])
 go_cut [14] (fun v14 wc => ∃ (kq : Nat) (x14_7 : Bool), v14 = .bool x14_7 ∧ Aside0 (tmesislaw06_TokenDots.j0 kq t195 t204 t214 t224 t234 x14_7 t199 t200 t201 t202 t203 t209 t210 t211 t212 t213 t219 t220 t221 t222 t223 t229 t230 t231 t232 t233 = some r) ∧ Aside0 (kq ≤ k) ∧ Aside0 (wc.heap[gb205]? = some (.cells #[.int .i64 t199, .int .i64 t200, .int .i64 t201, .string t202, .int .i64 t203] 27 (0, 0))) ∧ Aside0 (wc.heap[gb215]? = some (.cells #[.int .i64 t209, .int .i64 t210, .int .i64 t211, .string t212, .int .i64 t213] 27 (0, 0))) ∧ Aside0 (wc.heap[gb225]? = some (.cells #[.int .i64 t219, .int .i64 t220, .int .i64 t221, .string t222, .int .i64 t223] 27 (0, 0))) ∧ Aside0 (wc.heap[gb235]? = some (.cells #[.int .i64 t229, .int .i64 t230, .int .i64 t231, .string t232, .int .i64 t233] 27 (0, 0))) ∧ Aside0 (Below w.heap.size w wc))
 case first =>
  have H := HC8.out
  clear HC8
  by_cases c40 : a0 = 32
  ·rw [if_pos c40] at H
   have c40b0 : (a0 == 32) = true := beq_iff_eq.mpr c40
   have c40b1 : (a0 != 32) = false := bne_eq_false_iff_eq.mpr c40
   clear c40
   (first | rw [c40b0] | (simp only [i64_w, i32_w]; rw [c40b0]) | skip)
   have H' := Aside0.mk H
   clear H
   go_wp2
   go_meet
   case rel => exact ⟨_, (true), (by first | rfl | (simp; done) | (simp [*]; done)), H', ⟨by first | omega | exact Nat.le_refl _⟩, ⟨by (with_reducible repeat (first | refine blk_drewN ?_ _ | refine blk_drew ?_ | refine blk_alloc ?_ _)); refine blk_far ?_ NB205_235.out _; (with_reducible repeat (first | refine blk_drewN ?_ _ | refine blk_drew ?_ | refine blk_alloc ?_ _)); refine blk_far ?_ NB205_235.out _; (with_reducible repeat (first | refine blk_drewN ?_ _ | refine blk_drew ?_ | refine blk_alloc ?_ _)); refine blk_far ?_ NB205_235.out _; (with_reducible repeat (first | refine blk_drewN ?_ _ | refine blk_drew ?_ | refine blk_alloc ?_ _)); refine blk_far ?_ NB205_235.out _; (with_reducible repeat (first | refine blk_drewN ?_ _ | refine blk_drew ?_ | refine blk_alloc ?_ _)); refine blk_far ?_ NB205_235.out _; (with_reducible repeat (first | refine blk_drewN ?_ _ | refine blk_drew ?_ | refine blk_alloc ?_ _)); exact BK205.out⟩, ⟨by (with_reducible repeat (first | refine blk_drewN ?_ _ | refine blk_drew ?_ | refine blk_alloc ?_ _)); refine blk_far ?_ NB215_235.out _; (with_reducible repeat (first | refine blk_drewN ?_ _ | refine blk_drew ?_ | refine blk_alloc ?_ _)); refine blk_far ?_ NB215_235.out _; (with_reducible repeat (first | refine blk_drewN ?_ _ | refine blk_drew ?_ | refine blk_alloc ?_ _)); refine blk_far ?_ NB215_235.out _; (with_reducible repeat (first | refine blk_drewN ?_ _ | refine blk_drew ?_ | refine blk_alloc ?_ _)); refine blk_far ?_ NB215_235.out _; (with_reducible repeat (first | refine blk_drewN ?_ _ | refine blk_drew ?_ | refine blk_alloc ?_ _)); refine blk_far ?_ NB215_235.out _; (with_reducible repeat (first | refine blk_drewN ?_ _ | refine blk_drew ?_ | refine blk_alloc ?_ _)); exact BK215.out⟩, ⟨by (with_reducible repeat (first | refine blk_drewN ?_ _ | refine blk_drew ?_ | refine blk_alloc ?_ _)); refine blk_far ?_ NB225_235.out _; (with_reducible repeat (first | refine blk_drewN ?_ _ | refine blk_drew ?_ | refine blk_alloc ?_ _)); refine blk_far ?_ NB225_235.out _; (with_reducible repeat (first | refine blk_drewN ?_ _ | refine blk_drew ?_ | refine blk_alloc ?_ _)); refine blk_far ?_ NB225_235.out _; (with_reducible repeat (first | refine blk_drewN ?_ _ | refine blk_drew ?_ | refine blk_alloc ?_ _)); refine blk_far ?_ NB225_235.out _; (with_reducible repeat (first | refine blk_drewN ?_ _ | refine blk_drew ?_ | refine blk_alloc ?_ _)); refine blk_far ?_ NB225_235.out _; (with_reducible repeat (first | refine blk_drewN ?_ _ | refine blk_drew ?_ | refine blk_alloc ?_ _)); exact BK225.out⟩, ⟨by (with_reducible repeat (first | refine blk_drewN ?_ _ | refine blk_drew ?_ | refine blk_alloc ?_ _)); refine blk_put (cs := #[.int .i64 t229, .int .i64 t230, .int .i64 t231, .string t232, .int .i64 0]) ?_ 4 _ rfl; (with_reducible repeat (first | refine blk_drewN ?_ _ | refine blk_drew ?_ | refine blk_alloc ?_ _)); refine blk_put (cs := #[.int .i64 t229, .int .i64 t230, .int .i64 t231, .string (⟨#[]⟩ : ByteArray), .int .i64 0]) ?_ 3 _ rfl; (with_reducible repeat (first | refine blk_drewN ?_ _ | refine blk_drew ?_ | refine blk_alloc ?_ _)); refine blk_put (cs := #[.int .i64 t229, .int .i64 t230, .int .i64 0, .string (⟨#[]⟩ : ByteArray), .int .i64 0]) ?_ 2 _ rfl; (with_reducible repeat (first | refine blk_drewN ?_ _ | refine blk_drew ?_ | refine blk_alloc ?_ _)); refine blk_put (cs := #[.int .i64 t229, .int .i64 0, .int .i64 0, .string (⟨#[]⟩ : ByteArray), .int .i64 0]) ?_ 1 _ rfl; (with_reducible repeat (first | refine blk_drewN ?_ _ | refine blk_drew ?_ | refine blk_alloc ?_ _)); refine blk_put (cs := #[.int .i64 0, .int .i64 0, .int .i64 0, .string (⟨#[]⟩ : ByteArray), .int .i64 0]) ?_ 0 _ rfl; (with_reducible repeat (first | refine blk_drewN ?_ _ | refine blk_drew ?_ | refine blk_alloc ?_ _)); exact BK235.out⟩, ⟨by repeat (first | (with_reducible first | exact HB.out | apply below_alloc | apply pw_below_drewN | apply below_drew1 | refine below_set ?_ GE205.out | refine below_set ?_ GE215.out | refine below_set ?_ GE225.out | refine below_set ?_ GE235.out) | exact HB.out)⟩⟩
  ·rw [if_neg c40] at H
   have c40b0 : (a0 == 32) = false := beq_eq_false_iff_ne.mpr c40
   have c40b1 : (a0 != 32) = true := bne_iff_ne.mpr c40
   (first | rw [c40b0] | (simp only [i64_w, i32_w]; rw [c40b0]) | skip)
   by_cases c41 : a0 = 9
   ·rw [if_pos c41] at H
    have c41b0 : (a0 == 9) = true := beq_iff_eq.mpr c41
    have c41b1 : (a0 != 9) = false := bne_eq_false_iff_eq.mpr c41
    clear c41
    have H' := Aside0.mk H
    clear H
    go_wp2
    go_meet
    case rel => exact ⟨_, (true), (by first | rfl | (simp; done) | (simp [*]; done)), H', ⟨by first | omega | exact Nat.le_refl _⟩, ⟨by (with_reducible repeat (first | refine blk_drewN ?_ _ | refine blk_drew ?_ | refine blk_alloc ?_ _)); refine blk_far ?_ NB205_235.out _; (with_reducible repeat (first | refine blk_drewN ?_ _ | refine blk_drew ?_ | refine blk_alloc ?_ _)); refine blk_far ?_ NB205_235.out _; (with_reducible repeat (first | refine blk_drewN ?_ _ | refine blk_drew ?_ | refine blk_alloc ?_ _)); refine blk_far ?_ NB205_235.out _; (with_reducible repeat (first | refine blk_drewN ?_ _ | refine blk_drew ?_ | refine blk_alloc ?_ _)); refine blk_far ?_ NB205_235.out _; (with_reducible repeat (first | refine blk_drewN ?_ _ | refine blk_drew ?_ | refine blk_alloc ?_ _)); refine blk_far ?_ NB205_235.out _; (with_reducible repeat (first | refine blk_drewN ?_ _ | refine blk_drew ?_ | refine blk_alloc ?_ _)); exact BK205.out⟩, ⟨by (with_reducible repeat (first | refine blk_drewN ?_ _ | refine blk_drew ?_ | refine blk_alloc ?_ _)); refine blk_far ?_ NB215_235.out _; (with_reducible repeat (first | refine blk_drewN ?_ _ | refine blk_drew ?_ | refine blk_alloc ?_ _)); refine blk_far ?_ NB215_235.out _; (with_reducible repeat (first | refine blk_drewN ?_ _ | refine blk_drew ?_ | refine blk_alloc ?_ _)); refine blk_far ?_ NB215_235.out _; (with_reducible repeat (first | refine blk_drewN ?_ _ | refine blk_drew ?_ | refine blk_alloc ?_ _)); refine blk_far ?_ NB215_235.out _; (with_reducible repeat (first | refine blk_drewN ?_ _ | refine blk_drew ?_ | refine blk_alloc ?_ _)); refine blk_far ?_ NB215_235.out _; (with_reducible repeat (first | refine blk_drewN ?_ _ | refine blk_drew ?_ | refine blk_alloc ?_ _)); exact BK215.out⟩, ⟨by (with_reducible repeat (first | refine blk_drewN ?_ _ | refine blk_drew ?_ | refine blk_alloc ?_ _)); refine blk_far ?_ NB225_235.out _; (with_reducible repeat (first | refine blk_drewN ?_ _ | refine blk_drew ?_ | refine blk_alloc ?_ _)); refine blk_far ?_ NB225_235.out _; (with_reducible repeat (first | refine blk_drewN ?_ _ | refine blk_drew ?_ | refine blk_alloc ?_ _)); refine blk_far ?_ NB225_235.out _; (with_reducible repeat (first | refine blk_drewN ?_ _ | refine blk_drew ?_ | refine blk_alloc ?_ _)); refine blk_far ?_ NB225_235.out _; (with_reducible repeat (first | refine blk_drewN ?_ _ | refine blk_drew ?_ | refine blk_alloc ?_ _)); refine blk_far ?_ NB225_235.out _; (with_reducible repeat (first | refine blk_drewN ?_ _ | refine blk_drew ?_ | refine blk_alloc ?_ _)); exact BK225.out⟩, ⟨by (with_reducible repeat (first | refine blk_drewN ?_ _ | refine blk_drew ?_ | refine blk_alloc ?_ _)); refine blk_put (cs := #[.int .i64 t229, .int .i64 t230, .int .i64 t231, .string t232, .int .i64 0]) ?_ 4 _ rfl; (with_reducible repeat (first | refine blk_drewN ?_ _ | refine blk_drew ?_ | refine blk_alloc ?_ _)); refine blk_put (cs := #[.int .i64 t229, .int .i64 t230, .int .i64 t231, .string (⟨#[]⟩ : ByteArray), .int .i64 0]) ?_ 3 _ rfl; (with_reducible repeat (first | refine blk_drewN ?_ _ | refine blk_drew ?_ | refine blk_alloc ?_ _)); refine blk_put (cs := #[.int .i64 t229, .int .i64 t230, .int .i64 0, .string (⟨#[]⟩ : ByteArray), .int .i64 0]) ?_ 2 _ rfl; (with_reducible repeat (first | refine blk_drewN ?_ _ | refine blk_drew ?_ | refine blk_alloc ?_ _)); refine blk_put (cs := #[.int .i64 t229, .int .i64 0, .int .i64 0, .string (⟨#[]⟩ : ByteArray), .int .i64 0]) ?_ 1 _ rfl; (with_reducible repeat (first | refine blk_drewN ?_ _ | refine blk_drew ?_ | refine blk_alloc ?_ _)); refine blk_put (cs := #[.int .i64 0, .int .i64 0, .int .i64 0, .string (⟨#[]⟩ : ByteArray), .int .i64 0]) ?_ 0 _ rfl; (with_reducible repeat (first | refine blk_drewN ?_ _ | refine blk_drew ?_ | refine blk_alloc ?_ _)); exact BK235.out⟩, ⟨by repeat (first | (with_reducible first | exact HB.out | apply below_alloc | apply pw_below_drewN | apply below_drew1 | refine below_set ?_ GE205.out | refine below_set ?_ GE215.out | refine below_set ?_ GE225.out | refine below_set ?_ GE235.out) | exact HB.out)⟩⟩
   ·rw [if_neg c41] at H
    have c41b0 : (a0 == 9) = false := beq_eq_false_iff_ne.mpr c41
    have c41b1 : (a0 != 9) = true := bne_iff_ne.mpr c41
    by_cases c42 : a0 = 10
    ·rw [if_pos c42] at H
     have c42b0 : (a0 == 10) = true := beq_iff_eq.mpr c42
     have c42b1 : (a0 != 10) = false := bne_eq_false_iff_eq.mpr c42
     clear c42
     have H' := Aside0.mk H
     clear H
     go_wp2
     go_meet
     case rel => exact ⟨_, (true), (by first | rfl | (simp; done) | (simp [*]; done)), H', ⟨by first | omega | exact Nat.le_refl _⟩, ⟨by (with_reducible repeat (first | refine blk_drewN ?_ _ | refine blk_drew ?_ | refine blk_alloc ?_ _)); refine blk_far ?_ NB205_235.out _; (with_reducible repeat (first | refine blk_drewN ?_ _ | refine blk_drew ?_ | refine blk_alloc ?_ _)); refine blk_far ?_ NB205_235.out _; (with_reducible repeat (first | refine blk_drewN ?_ _ | refine blk_drew ?_ | refine blk_alloc ?_ _)); refine blk_far ?_ NB205_235.out _; (with_reducible repeat (first | refine blk_drewN ?_ _ | refine blk_drew ?_ | refine blk_alloc ?_ _)); refine blk_far ?_ NB205_235.out _; (with_reducible repeat (first | refine blk_drewN ?_ _ | refine blk_drew ?_ | refine blk_alloc ?_ _)); refine blk_far ?_ NB205_235.out _; (with_reducible repeat (first | refine blk_drewN ?_ _ | refine blk_drew ?_ | refine blk_alloc ?_ _)); exact BK205.out⟩, ⟨by (with_reducible repeat (first | refine blk_drewN ?_ _ | refine blk_drew ?_ | refine blk_alloc ?_ _)); refine blk_far ?_ NB215_235.out _; (with_reducible repeat (first | refine blk_drewN ?_ _ | refine blk_drew ?_ | refine blk_alloc ?_ _)); refine blk_far ?_ NB215_235.out _; (with_reducible repeat (first | refine blk_drewN ?_ _ | refine blk_drew ?_ | refine blk_alloc ?_ _)); refine blk_far ?_ NB215_235.out _; (with_reducible repeat (first | refine blk_drewN ?_ _ | refine blk_drew ?_ | refine blk_alloc ?_ _)); refine blk_far ?_ NB215_235.out _; (with_reducible repeat (first | refine blk_drewN ?_ _ | refine blk_drew ?_ | refine blk_alloc ?_ _)); refine blk_far ?_ NB215_235.out _; (with_reducible repeat (first | refine blk_drewN ?_ _ | refine blk_drew ?_ | refine blk_alloc ?_ _)); exact BK215.out⟩, ⟨by (with_reducible repeat (first | refine blk_drewN ?_ _ | refine blk_drew ?_ | refine blk_alloc ?_ _)); refine blk_far ?_ NB225_235.out _; (with_reducible repeat (first | refine blk_drewN ?_ _ | refine blk_drew ?_ | refine blk_alloc ?_ _)); refine blk_far ?_ NB225_235.out _; (with_reducible repeat (first | refine blk_drewN ?_ _ | refine blk_drew ?_ | refine blk_alloc ?_ _)); refine blk_far ?_ NB225_235.out _; (with_reducible repeat (first | refine blk_drewN ?_ _ | refine blk_drew ?_ | refine blk_alloc ?_ _)); refine blk_far ?_ NB225_235.out _; (with_reducible repeat (first | refine blk_drewN ?_ _ | refine blk_drew ?_ | refine blk_alloc ?_ _)); refine blk_far ?_ NB225_235.out _; (with_reducible repeat (first | refine blk_drewN ?_ _ | refine blk_drew ?_ | refine blk_alloc ?_ _)); exact BK225.out⟩, ⟨by (with_reducible repeat (first | refine blk_drewN ?_ _ | refine blk_drew ?_ | refine blk_alloc ?_ _)); refine blk_put (cs := #[.int .i64 t229, .int .i64 t230, .int .i64 t231, .string t232, .int .i64 0]) ?_ 4 _ rfl; (with_reducible repeat (first | refine blk_drewN ?_ _ | refine blk_drew ?_ | refine blk_alloc ?_ _)); refine blk_put (cs := #[.int .i64 t229, .int .i64 t230, .int .i64 t231, .string (⟨#[]⟩ : ByteArray), .int .i64 0]) ?_ 3 _ rfl; (with_reducible repeat (first | refine blk_drewN ?_ _ | refine blk_drew ?_ | refine blk_alloc ?_ _)); refine blk_put (cs := #[.int .i64 t229, .int .i64 t230, .int .i64 0, .string (⟨#[]⟩ : ByteArray), .int .i64 0]) ?_ 2 _ rfl; (with_reducible repeat (first | refine blk_drewN ?_ _ | refine blk_drew ?_ | refine blk_alloc ?_ _)); refine blk_put (cs := #[.int .i64 t229, .int .i64 0, .int .i64 0, .string (⟨#[]⟩ : ByteArray), .int .i64 0]) ?_ 1 _ rfl; (with_reducible repeat (first | refine blk_drewN ?_ _ | refine blk_drew ?_ | refine blk_alloc ?_ _)); refine blk_put (cs := #[.int .i64 0, .int .i64 0, .int .i64 0, .string (⟨#[]⟩ : ByteArray), .int .i64 0]) ?_ 0 _ rfl; (with_reducible repeat (first | refine blk_drewN ?_ _ | refine blk_drew ?_ | refine blk_alloc ?_ _)); exact BK235.out⟩, ⟨by repeat (first | (with_reducible first | exact HB.out | apply below_alloc | apply pw_below_drewN | apply below_drew1 | refine below_set ?_ GE205.out | refine below_set ?_ GE215.out | refine below_set ?_ GE225.out | refine below_set ?_ GE235.out) | exact HB.out)⟩⟩
    ·rw [if_neg c42] at H
     have c42b0 : (a0 == 10) = false := beq_eq_false_iff_ne.mpr c42
     have c42b1 : (a0 != 10) = true := bne_iff_ne.mpr c42
     by_cases c43 : a0 = 13
     ·rw [if_pos c43] at H
      have c43b0 : (a0 == 13) = true := beq_iff_eq.mpr c43
      have c43b1 : (a0 != 13) = false := bne_eq_false_iff_eq.mpr c43
      clear c43
      have H' := Aside0.mk H
      clear H
      go_wp2
      go_meet
      case rel => exact ⟨_, (true), (by first | rfl | (simp; done) | (simp [*]; done)), H', ⟨by first | omega | exact Nat.le_refl _⟩, ⟨by (with_reducible repeat (first | refine blk_drewN ?_ _ | refine blk_drew ?_ | refine blk_alloc ?_ _)); refine blk_far ?_ NB205_235.out _; (with_reducible repeat (first | refine blk_drewN ?_ _ | refine blk_drew ?_ | refine blk_alloc ?_ _)); refine blk_far ?_ NB205_235.out _; (with_reducible repeat (first | refine blk_drewN ?_ _ | refine blk_drew ?_ | refine blk_alloc ?_ _)); refine blk_far ?_ NB205_235.out _; (with_reducible repeat (first | refine blk_drewN ?_ _ | refine blk_drew ?_ | refine blk_alloc ?_ _)); refine blk_far ?_ NB205_235.out _; (with_reducible repeat (first | refine blk_drewN ?_ _ | refine blk_drew ?_ | refine blk_alloc ?_ _)); refine blk_far ?_ NB205_235.out _; (with_reducible repeat (first | refine blk_drewN ?_ _ | refine blk_drew ?_ | refine blk_alloc ?_ _)); exact BK205.out⟩, ⟨by (with_reducible repeat (first | refine blk_drewN ?_ _ | refine blk_drew ?_ | refine blk_alloc ?_ _)); refine blk_far ?_ NB215_235.out _; (with_reducible repeat (first | refine blk_drewN ?_ _ | refine blk_drew ?_ | refine blk_alloc ?_ _)); refine blk_far ?_ NB215_235.out _; (with_reducible repeat (first | refine blk_drewN ?_ _ | refine blk_drew ?_ | refine blk_alloc ?_ _)); refine blk_far ?_ NB215_235.out _; (with_reducible repeat (first | refine blk_drewN ?_ _ | refine blk_drew ?_ | refine blk_alloc ?_ _)); refine blk_far ?_ NB215_235.out _; (with_reducible repeat (first | refine blk_drewN ?_ _ | refine blk_drew ?_ | refine blk_alloc ?_ _)); refine blk_far ?_ NB215_235.out _; (with_reducible repeat (first | refine blk_drewN ?_ _ | refine blk_drew ?_ | refine blk_alloc ?_ _)); exact BK215.out⟩, ⟨by (with_reducible repeat (first | refine blk_drewN ?_ _ | refine blk_drew ?_ | refine blk_alloc ?_ _)); refine blk_far ?_ NB225_235.out _; (with_reducible repeat (first | refine blk_drewN ?_ _ | refine blk_drew ?_ | refine blk_alloc ?_ _)); refine blk_far ?_ NB225_235.out _; (with_reducible repeat (first | refine blk_drewN ?_ _ | refine blk_drew ?_ | refine blk_alloc ?_ _)); refine blk_far ?_ NB225_235.out _; (with_reducible repeat (first | refine blk_drewN ?_ _ | refine blk_drew ?_ | refine blk_alloc ?_ _)); refine blk_far ?_ NB225_235.out _; (with_reducible repeat (first | refine blk_drewN ?_ _ | refine blk_drew ?_ | refine blk_alloc ?_ _)); refine blk_far ?_ NB225_235.out _; (with_reducible repeat (first | refine blk_drewN ?_ _ | refine blk_drew ?_ | refine blk_alloc ?_ _)); exact BK225.out⟩, ⟨by (with_reducible repeat (first | refine blk_drewN ?_ _ | refine blk_drew ?_ | refine blk_alloc ?_ _)); refine blk_put (cs := #[.int .i64 t229, .int .i64 t230, .int .i64 t231, .string t232, .int .i64 0]) ?_ 4 _ rfl; (with_reducible repeat (first | refine blk_drewN ?_ _ | refine blk_drew ?_ | refine blk_alloc ?_ _)); refine blk_put (cs := #[.int .i64 t229, .int .i64 t230, .int .i64 t231, .string (⟨#[]⟩ : ByteArray), .int .i64 0]) ?_ 3 _ rfl; (with_reducible repeat (first | refine blk_drewN ?_ _ | refine blk_drew ?_ | refine blk_alloc ?_ _)); refine blk_put (cs := #[.int .i64 t229, .int .i64 t230, .int .i64 0, .string (⟨#[]⟩ : ByteArray), .int .i64 0]) ?_ 2 _ rfl; (with_reducible repeat (first | refine blk_drewN ?_ _ | refine blk_drew ?_ | refine blk_alloc ?_ _)); refine blk_put (cs := #[.int .i64 t229, .int .i64 0, .int .i64 0, .string (⟨#[]⟩ : ByteArray), .int .i64 0]) ?_ 1 _ rfl; (with_reducible repeat (first | refine blk_drewN ?_ _ | refine blk_drew ?_ | refine blk_alloc ?_ _)); refine blk_put (cs := #[.int .i64 0, .int .i64 0, .int .i64 0, .string (⟨#[]⟩ : ByteArray), .int .i64 0]) ?_ 0 _ rfl; (with_reducible repeat (first | refine blk_drewN ?_ _ | refine blk_drew ?_ | refine blk_alloc ?_ _)); exact BK235.out⟩, ⟨by repeat (first | (with_reducible first | exact HB.out | apply below_alloc | apply pw_below_drewN | apply below_drew1 | refine below_set ?_ GE205.out | refine below_set ?_ GE215.out | refine below_set ?_ GE225.out | refine below_set ?_ GE235.out) | exact HB.out)⟩⟩
     ·rw [if_neg c43] at H
      have c43b0 : (a0 == 13) = false := beq_eq_false_iff_ne.mpr c43
      have c43b1 : (a0 != 13) = true := bne_iff_ne.mpr c43
      have H' := Aside0.mk H
      clear H
      go_wp2
      go_meet
      case rel => exact ⟨_, ((a0 == 37)), (by first | rfl | (simp; done) | (simp [*]; done)), H', ⟨by first | omega | exact Nat.le_refl _⟩, ⟨by (with_reducible repeat (first | refine blk_drewN ?_ _ | refine blk_drew ?_ | refine blk_alloc ?_ _)); refine blk_far ?_ NB205_235.out _; (with_reducible repeat (first | refine blk_drewN ?_ _ | refine blk_drew ?_ | refine blk_alloc ?_ _)); refine blk_far ?_ NB205_235.out _; (with_reducible repeat (first | refine blk_drewN ?_ _ | refine blk_drew ?_ | refine blk_alloc ?_ _)); refine blk_far ?_ NB205_235.out _; (with_reducible repeat (first | refine blk_drewN ?_ _ | refine blk_drew ?_ | refine blk_alloc ?_ _)); refine blk_far ?_ NB205_235.out _; (with_reducible repeat (first | refine blk_drewN ?_ _ | refine blk_drew ?_ | refine blk_alloc ?_ _)); refine blk_far ?_ NB205_235.out _; (with_reducible repeat (first | refine blk_drewN ?_ _ | refine blk_drew ?_ | refine blk_alloc ?_ _)); exact BK205.out⟩, ⟨by (with_reducible repeat (first | refine blk_drewN ?_ _ | refine blk_drew ?_ | refine blk_alloc ?_ _)); refine blk_far ?_ NB215_235.out _; (with_reducible repeat (first | refine blk_drewN ?_ _ | refine blk_drew ?_ | refine blk_alloc ?_ _)); refine blk_far ?_ NB215_235.out _; (with_reducible repeat (first | refine blk_drewN ?_ _ | refine blk_drew ?_ | refine blk_alloc ?_ _)); refine blk_far ?_ NB215_235.out _; (with_reducible repeat (first | refine blk_drewN ?_ _ | refine blk_drew ?_ | refine blk_alloc ?_ _)); refine blk_far ?_ NB215_235.out _; (with_reducible repeat (first | refine blk_drewN ?_ _ | refine blk_drew ?_ | refine blk_alloc ?_ _)); refine blk_far ?_ NB215_235.out _; (with_reducible repeat (first | refine blk_drewN ?_ _ | refine blk_drew ?_ | refine blk_alloc ?_ _)); exact BK215.out⟩, ⟨by (with_reducible repeat (first | refine blk_drewN ?_ _ | refine blk_drew ?_ | refine blk_alloc ?_ _)); refine blk_far ?_ NB225_235.out _; (with_reducible repeat (first | refine blk_drewN ?_ _ | refine blk_drew ?_ | refine blk_alloc ?_ _)); refine blk_far ?_ NB225_235.out _; (with_reducible repeat (first | refine blk_drewN ?_ _ | refine blk_drew ?_ | refine blk_alloc ?_ _)); refine blk_far ?_ NB225_235.out _; (with_reducible repeat (first | refine blk_drewN ?_ _ | refine blk_drew ?_ | refine blk_alloc ?_ _)); refine blk_far ?_ NB225_235.out _; (with_reducible repeat (first | refine blk_drewN ?_ _ | refine blk_drew ?_ | refine blk_alloc ?_ _)); refine blk_far ?_ NB225_235.out _; (with_reducible repeat (first | refine blk_drewN ?_ _ | refine blk_drew ?_ | refine blk_alloc ?_ _)); exact BK225.out⟩, ⟨by (with_reducible repeat (first | refine blk_drewN ?_ _ | refine blk_drew ?_ | refine blk_alloc ?_ _)); refine blk_put (cs := #[.int .i64 t229, .int .i64 t230, .int .i64 t231, .string t232, .int .i64 0]) ?_ 4 _ rfl; (with_reducible repeat (first | refine blk_drewN ?_ _ | refine blk_drew ?_ | refine blk_alloc ?_ _)); refine blk_put (cs := #[.int .i64 t229, .int .i64 t230, .int .i64 t231, .string (⟨#[]⟩ : ByteArray), .int .i64 0]) ?_ 3 _ rfl; (with_reducible repeat (first | refine blk_drewN ?_ _ | refine blk_drew ?_ | refine blk_alloc ?_ _)); refine blk_put (cs := #[.int .i64 t229, .int .i64 t230, .int .i64 0, .string (⟨#[]⟩ : ByteArray), .int .i64 0]) ?_ 2 _ rfl; (with_reducible repeat (first | refine blk_drewN ?_ _ | refine blk_drew ?_ | refine blk_alloc ?_ _)); refine blk_put (cs := #[.int .i64 t229, .int .i64 0, .int .i64 0, .string (⟨#[]⟩ : ByteArray), .int .i64 0]) ?_ 1 _ rfl; (with_reducible repeat (first | refine blk_drewN ?_ _ | refine blk_drew ?_ | refine blk_alloc ?_ _)); refine blk_put (cs := #[.int .i64 0, .int .i64 0, .int .i64 0, .string (⟨#[]⟩ : ByteArray), .int .i64 0]) ?_ 0 _ rfl; (with_reducible repeat (first | refine blk_drewN ?_ _ | refine blk_drew ?_ | refine blk_alloc ?_ _)); exact BK235.out⟩, ⟨by repeat (first | (with_reducible first | exact HB.out | apply below_alloc | apply pw_below_drewN | apply below_drew1 | refine below_set ?_ GE205.out | refine below_set ?_ GE215.out | refine below_set ?_ GE225.out | refine below_set ?_ GE235.out) | exact HB.out)⟩⟩
 case rest =>
  clear HC8
  try clear c1
  try clear c2
  try clear p2
  try clear c3
  try clear c4
  try clear c8
  try clear c9
  try clear c11
  try clear c21
  try clear c28
  try clear c29
  try clear c36
  try clear c37
  try clear c38
  try clear c40
  try clear c40b0
  try clear c40b1
  try clear c41
  try clear c41b0
  try clear c41b1
  try clear c42
  try clear c42b0
  try clear c42b1
  try clear c43
  try clear c43b0
  try clear c43b1
  try clear hcz15_0
  try clear hcz15_1
  try clear hcz15_2
  try clear hcz15_3
  try clear hcz15_4
  try clear hcz22_0
  try clear hcz22_1
  try clear hcz22_2
  try clear hcz22_3
  try clear hcz22_4
  try clear hcz30_0
  try clear hcz30_1
  try clear hcz30_2
  try clear hcz30_3
  try clear hcz30_4
  try clear hcz39_0
  try clear hcz39_1
  try clear hcz39_2
  try clear hcz39_3
  try clear hcz39_4
  try clear hfz15_0
  try clear hfz15_1
  try clear hfz15_2
  try clear hfz15_3
  try clear hfz15_4
  try clear hfz22_0
  try clear hfz22_1
  try clear hfz22_2
  try clear hfz22_3
  try clear hfz22_4
  try clear hfz30_0
  try clear hfz30_1
  try clear hfz30_2
  try clear hfz30_3
  try clear hfz30_4
  try clear hfz39_0
  try clear hfz39_1
  try clear hfz39_2
  try clear hfz39_3
  try clear hfz39_4
  obtain ⟨kq, x14_7, rfl, HA, HJ7, BK205, BK215, BK225, BK235, HB⟩ := hcut
  cases kq with
  | zero => exact absurd HA.out (by simp [tmesislaw06_TokenDots.j0])
  | succ kj7 =>
   have H := HA.out
   clear HA
   simp only [tmesislaw06_TokenDots.j0] at H
   have HC44 := Aside0.mk H
   clear H
   go_upto_region 7 with (fail)
   go_cut [4] (fun v4 wc => ∃ (kq : Nat) (x4_43 : Bool), v4 = .bool x4_43 ∧ Aside0 (tmesislaw06_TokenDots.j1 kq x4_43 = some r) ∧ Aside0 (kq ≤ kj7) ∧ Aside0 (wc.heap[gb205]? = some (.cells #[.int .i64 t199, .int .i64 t200, .int .i64 t201, .string t202, .int .i64 t203] 27 (0, 0))) ∧ Aside0 (wc.heap[gb215]? = some (.cells #[.int .i64 t209, .int .i64 t210, .int .i64 t211, .string t212, .int .i64 t213] 27 (0, 0))) ∧ Aside0 (wc.heap[gb225]? = some (.cells #[.int .i64 t219, .int .i64 t220, .int .i64 t221, .string t222, .int .i64 t223] 27 (0, 0))) ∧ Aside0 (wc.heap[gb235]? = some (.cells #[.int .i64 t229, .int .i64 t230, .int .i64 t231, .string t232, .int .i64 t233] 27 (0, 0))) ∧ Aside0 (Below w.heap.size w wc))
   case first =>
    have H := HC44.out
    clear HC44
    by_cases c45 : t195 = true
    ·subst c45
     have H1 : (if t204 = true then (if ((t199 == 7) == x14_7) = true then (if x14_7 = true then (if t214 = true then (if t209 = 7 then (if t224 = true then (if t219 = 2 then (if t234 = true then (tmesislaw06_TokenDots.j1 kj7 (t229 == 7)) else (tmesislaw06_TokenDots.j1 kj7 false)) else (tmesislaw06_TokenDots.j1 kj7 false)) else (tmesislaw06_TokenDots.j1 kj7 false)) else (tmesislaw06_TokenDots.j1 kj7 false)) else (tmesislaw06_TokenDots.j1 kj7 false)) else (if t199 = 2 then (if t214 = true then (if t209 = 7 then (if t224 = true then (if t219 = 2 then (if t234 = true then (tmesislaw06_TokenDots.j1 kj7 (t229 == 7)) else (tmesislaw06_TokenDots.j1 kj7 false)) else (tmesislaw06_TokenDots.j1 kj7 false)) else (tmesislaw06_TokenDots.j1 kj7 false)) else (tmesislaw06_TokenDots.j1 kj7 false)) else (tmesislaw06_TokenDots.j1 kj7 false)) else (tmesislaw06_TokenDots.j1 kj7 false))) else (tmesislaw06_TokenDots.j1 kj7 false)) else (tmesislaw06_TokenDots.j1 kj7 false)) = some r := by rw [if_pos rfl] at H; exact H
     clear H
     have H := H1
     clear H1
     by_cases c46 : t204 = true
     ·subst c46
      have H1 : (if ((t199 == 7) == x14_7) = true then (if x14_7 = true then (if t214 = true then (if t209 = 7 then (if t224 = true then (if t219 = 2 then (if t234 = true then (tmesislaw06_TokenDots.j1 kj7 (t229 == 7)) else (tmesislaw06_TokenDots.j1 kj7 false)) else (tmesislaw06_TokenDots.j1 kj7 false)) else (tmesislaw06_TokenDots.j1 kj7 false)) else (tmesislaw06_TokenDots.j1 kj7 false)) else (tmesislaw06_TokenDots.j1 kj7 false)) else (if t199 = 2 then (if t214 = true then (if t209 = 7 then (if t224 = true then (if t219 = 2 then (if t234 = true then (tmesislaw06_TokenDots.j1 kj7 (t229 == 7)) else (tmesislaw06_TokenDots.j1 kj7 false)) else (tmesislaw06_TokenDots.j1 kj7 false)) else (tmesislaw06_TokenDots.j1 kj7 false)) else (tmesislaw06_TokenDots.j1 kj7 false)) else (tmesislaw06_TokenDots.j1 kj7 false)) else (tmesislaw06_TokenDots.j1 kj7 false))) else (tmesislaw06_TokenDots.j1 kj7 false)) = some r := by rw [if_pos rfl] at H; exact H
      clear H
      have H := H1
      clear H1
      by_cases c47 : ((t199 == 7) == x14_7) = true
      ·rw [if_pos c47] at H
       have c47b0 : ((t199 == 7) == x14_7) = true := c47
       (try (have c47b1 : decide ((t199 == 7) = x14_7) = true := by simpa using c47))
       (try (have c47b2 : ((t199 == 7) == x14_7) = true := by simpa using c47))
       clear c47
       (first | rw [c47b0] | (simp only [i64_w, i32_w]; rw [c47b0]) | skip)
       by_cases c48 : x14_7 = true
       ·subst c48
        have H1 : (if t214 = true then (if t209 = 7 then (if t224 = true then (if t219 = 2 then (if t234 = true then (tmesislaw06_TokenDots.j1 kj7 (t229 == 7)) else (tmesislaw06_TokenDots.j1 kj7 false)) else (tmesislaw06_TokenDots.j1 kj7 false)) else (tmesislaw06_TokenDots.j1 kj7 false)) else (tmesislaw06_TokenDots.j1 kj7 false)) else (tmesislaw06_TokenDots.j1 kj7 false)) = some r := by rw [if_pos rfl] at H; exact H
        clear H
        have H := H1
        clear H1
        by_cases c49 : t214 = true
        ·subst c49
         have H1 : (if t209 = 7 then (if t224 = true then (if t219 = 2 then (if t234 = true then (tmesislaw06_TokenDots.j1 kj7 (t229 == 7)) else (tmesislaw06_TokenDots.j1 kj7 false)) else (tmesislaw06_TokenDots.j1 kj7 false)) else (tmesislaw06_TokenDots.j1 kj7 false)) else (tmesislaw06_TokenDots.j1 kj7 false)) = some r := by rw [if_pos rfl] at H; exact H
         clear H
         have H := H1
         clear H1
         by_cases c50 : t209 = 7
         ·rw [if_pos c50] at H
          have c50b0 : (t209 == 7) = true := beq_iff_eq.mpr c50
          have c50b1 : (t209 != 7) = false := bne_eq_false_iff_eq.mpr c50
          clear c50
          by_cases c51 : t224 = true
          ·subst c51
           have H1 : (if t219 = 2 then (if t234 = true then (tmesislaw06_TokenDots.j1 kj7 (t229 == 7)) else (tmesislaw06_TokenDots.j1 kj7 false)) else (tmesislaw06_TokenDots.j1 kj7 false)) = some r := by rw [if_pos rfl] at H; exact H
           clear H
           have H := H1
           clear H1
           by_cases c52 : t219 = 2
           ·rw [if_pos c52] at H
            have c52b0 : (t219 == 2) = true := beq_iff_eq.mpr c52
            have c52b1 : (t219 != 2) = false := bne_eq_false_iff_eq.mpr c52
            clear c52
            by_cases c53 : t234 = true
            ·subst c53
             have H1 : (tmesislaw06_TokenDots.j1 kj7 (t229 == 7)) = some r := by rw [if_pos rfl] at H; exact H
             clear H
             have H := H1
             clear H1
             have H' := Aside0.mk H
             clear H
             have hnb54 := NB205_215.out
             have hnc54 := NB215_205.out
             have hnb55 := NB205_225.out
             have hnc55 := NB225_205.out
             have hnb56 := NB205_235.out
             have hnc56 := NB235_205.out
             have hcz57_0 : wc.cell? ⟨gb205, 0, none⟩ = some (.int .i64 t199) := (blk_cell BK205.out 0).trans rfl
             have hcz57_1 : wc.cell? ⟨gb205, 1, none⟩ = some (.int .i64 t200) := (blk_cell BK205.out 1).trans rfl
             have hcz57_2 : wc.cell? ⟨gb205, 2, none⟩ = some (.int .i64 t201) := (blk_cell BK205.out 2).trans rfl
             have hcz57_3 : wc.cell? ⟨gb205, 3, none⟩ = some (.string t202) := (blk_cell BK205.out 3).trans rfl
             have hcz57_4 : wc.cell? ⟨gb205, 4, none⟩ = some (.int .i64 t203) := (blk_cell BK205.out 4).trans rfl
             have hfz57_0 := blk_frozen BK205.out 0
             have hfz57_1 := blk_frozen BK205.out 1
             have hfz57_2 := blk_frozen BK205.out 2
             have hfz57_3 := blk_frozen BK205.out 3
             have hfz57_4 := blk_frozen BK205.out 4
             have hnb58 := NB215_225.out
             have hnc58 := NB225_215.out
             have hnb59 := NB215_235.out
             have hnc59 := NB235_215.out
             have hcz60_0 : wc.cell? ⟨gb215, 0, none⟩ = some (.int .i64 t209) := (blk_cell BK215.out 0).trans rfl
             have hcz60_1 : wc.cell? ⟨gb215, 1, none⟩ = some (.int .i64 t210) := (blk_cell BK215.out 1).trans rfl
             have hcz60_2 : wc.cell? ⟨gb215, 2, none⟩ = some (.int .i64 t211) := (blk_cell BK215.out 2).trans rfl
             have hcz60_3 : wc.cell? ⟨gb215, 3, none⟩ = some (.string t212) := (blk_cell BK215.out 3).trans rfl
             have hcz60_4 : wc.cell? ⟨gb215, 4, none⟩ = some (.int .i64 t213) := (blk_cell BK215.out 4).trans rfl
             have hfz60_0 := blk_frozen BK215.out 0
             have hfz60_1 := blk_frozen BK215.out 1
             have hfz60_2 := blk_frozen BK215.out 2
             have hfz60_3 := blk_frozen BK215.out 3
             have hfz60_4 := blk_frozen BK215.out 4
             have hnb61 := NB225_235.out
             have hnc61 := NB235_225.out
             have hcz62_0 : wc.cell? ⟨gb225, 0, none⟩ = some (.int .i64 t219) := (blk_cell BK225.out 0).trans rfl
             have hcz62_1 : wc.cell? ⟨gb225, 1, none⟩ = some (.int .i64 t220) := (blk_cell BK225.out 1).trans rfl
             have hcz62_2 : wc.cell? ⟨gb225, 2, none⟩ = some (.int .i64 t221) := (blk_cell BK225.out 2).trans rfl
             have hcz62_3 : wc.cell? ⟨gb225, 3, none⟩ = some (.string t222) := (blk_cell BK225.out 3).trans rfl
             have hcz62_4 : wc.cell? ⟨gb225, 4, none⟩ = some (.int .i64 t223) := (blk_cell BK225.out 4).trans rfl
             have hfz62_0 := blk_frozen BK225.out 0
             have hfz62_1 := blk_frozen BK225.out 1
             have hfz62_2 := blk_frozen BK225.out 2
             have hfz62_3 := blk_frozen BK225.out 3
             have hfz62_4 := blk_frozen BK225.out 4
             have hcz63_0 : wc.cell? ⟨gb235, 0, none⟩ = some (.int .i64 t229) := (blk_cell BK235.out 0).trans rfl
             have hcz63_1 : wc.cell? ⟨gb235, 1, none⟩ = some (.int .i64 t230) := (blk_cell BK235.out 1).trans rfl
             have hcz63_2 : wc.cell? ⟨gb235, 2, none⟩ = some (.int .i64 t231) := (blk_cell BK235.out 2).trans rfl
             have hcz63_3 : wc.cell? ⟨gb235, 3, none⟩ = some (.string t232) := (blk_cell BK235.out 3).trans rfl
             have hcz63_4 : wc.cell? ⟨gb235, 4, none⟩ = some (.int .i64 t233) := (blk_cell BK235.out 4).trans rfl
             have hfz63_0 := blk_frozen BK235.out 0
             have hfz63_1 := blk_frozen BK235.out 1
             have hfz63_2 := blk_frozen BK235.out 2
             have hfz63_3 := blk_frozen BK235.out 3
             have hfz63_4 := blk_frozen BK235.out 4
             go_wp2
             go_meet
             case rel => exact ⟨_, ((t229 == 7)), (by first | rfl | (simp; done) | (simp [*]; done)), H', ⟨by have := HJ7.out; first | omega | exact Nat.le_refl _⟩, ⟨by (with_reducible repeat (first | refine blk_drewN ?_ _ | refine blk_drew ?_ | refine blk_alloc ?_ _)); exact BK205.out⟩, ⟨by (with_reducible repeat (first | refine blk_drewN ?_ _ | refine blk_drew ?_ | refine blk_alloc ?_ _)); exact BK215.out⟩, ⟨by (with_reducible repeat (first | refine blk_drewN ?_ _ | refine blk_drew ?_ | refine blk_alloc ?_ _)); exact BK225.out⟩, ⟨by (with_reducible repeat (first | refine blk_drewN ?_ _ | refine blk_drew ?_ | refine blk_alloc ?_ _)); exact BK235.out⟩, ⟨by repeat (first | (with_reducible first | exact HB.out | apply below_alloc | apply pw_below_drewN | apply below_drew1 | refine below_set ?_ GE205.out | refine below_set ?_ GE215.out | refine below_set ?_ GE225.out | refine below_set ?_ GE235.out) | exact HB.out)⟩⟩
            ·replace c53 := Bool.eq_false_iff.mpr c53
             subst c53
             have H1 : (tmesislaw06_TokenDots.j1 kj7 false) = some r := by rw [if_neg (show ¬ (false = true) by decide)] at H; exact H
             clear H
             have H := H1
             clear H1
             have H' := Aside0.mk H
             clear H
             have hnb64 := NB205_215.out
             have hnc64 := NB215_205.out
             have hnb65 := NB205_225.out
             have hnc65 := NB225_205.out
             have hnb66 := NB205_235.out
             have hnc66 := NB235_205.out
             have hcz67_0 : wc.cell? ⟨gb205, 0, none⟩ = some (.int .i64 t199) := (blk_cell BK205.out 0).trans rfl
             have hcz67_1 : wc.cell? ⟨gb205, 1, none⟩ = some (.int .i64 t200) := (blk_cell BK205.out 1).trans rfl
             have hcz67_2 : wc.cell? ⟨gb205, 2, none⟩ = some (.int .i64 t201) := (blk_cell BK205.out 2).trans rfl
             have hcz67_3 : wc.cell? ⟨gb205, 3, none⟩ = some (.string t202) := (blk_cell BK205.out 3).trans rfl
             have hcz67_4 : wc.cell? ⟨gb205, 4, none⟩ = some (.int .i64 t203) := (blk_cell BK205.out 4).trans rfl
             have hfz67_0 := blk_frozen BK205.out 0
             have hfz67_1 := blk_frozen BK205.out 1
             have hfz67_2 := blk_frozen BK205.out 2
             have hfz67_3 := blk_frozen BK205.out 3
             have hfz67_4 := blk_frozen BK205.out 4
             have hnb68 := NB215_225.out
             have hnc68 := NB225_215.out
             have hnb69 := NB215_235.out
             have hnc69 := NB235_215.out
             have hcz70_0 : wc.cell? ⟨gb215, 0, none⟩ = some (.int .i64 t209) := (blk_cell BK215.out 0).trans rfl
             have hcz70_1 : wc.cell? ⟨gb215, 1, none⟩ = some (.int .i64 t210) := (blk_cell BK215.out 1).trans rfl
             have hcz70_2 : wc.cell? ⟨gb215, 2, none⟩ = some (.int .i64 t211) := (blk_cell BK215.out 2).trans rfl
             have hcz70_3 : wc.cell? ⟨gb215, 3, none⟩ = some (.string t212) := (blk_cell BK215.out 3).trans rfl
             have hcz70_4 : wc.cell? ⟨gb215, 4, none⟩ = some (.int .i64 t213) := (blk_cell BK215.out 4).trans rfl
             have hfz70_0 := blk_frozen BK215.out 0
             have hfz70_1 := blk_frozen BK215.out 1
             have hfz70_2 := blk_frozen BK215.out 2
             have hfz70_3 := blk_frozen BK215.out 3
             have hfz70_4 := blk_frozen BK215.out 4
             have hnb71 := NB225_235.out
             have hnc71 := NB235_225.out
             have hcz72_0 : wc.cell? ⟨gb225, 0, none⟩ = some (.int .i64 t219) := (blk_cell BK225.out 0).trans rfl
             have hcz72_1 : wc.cell? ⟨gb225, 1, none⟩ = some (.int .i64 t220) := (blk_cell BK225.out 1).trans rfl
             have hcz72_2 : wc.cell? ⟨gb225, 2, none⟩ = some (.int .i64 t221) := (blk_cell BK225.out 2).trans rfl
             have hcz72_3 : wc.cell? ⟨gb225, 3, none⟩ = some (.string t222) := (blk_cell BK225.out 3).trans rfl
             have hcz72_4 : wc.cell? ⟨gb225, 4, none⟩ = some (.int .i64 t223) := (blk_cell BK225.out 4).trans rfl
             have hfz72_0 := blk_frozen BK225.out 0
             have hfz72_1 := blk_frozen BK225.out 1
             have hfz72_2 := blk_frozen BK225.out 2
             have hfz72_3 := blk_frozen BK225.out 3
             have hfz72_4 := blk_frozen BK225.out 4
             go_wp2
             go_meet
             case rel => exact ⟨_, (false), (by first | rfl | (simp; done) | (simp [*]; done)), H', ⟨by have := HJ7.out; first | omega | exact Nat.le_refl _⟩, ⟨by (with_reducible repeat (first | refine blk_drewN ?_ _ | refine blk_drew ?_ | refine blk_alloc ?_ _)); exact BK205.out⟩, ⟨by (with_reducible repeat (first | refine blk_drewN ?_ _ | refine blk_drew ?_ | refine blk_alloc ?_ _)); exact BK215.out⟩, ⟨by (with_reducible repeat (first | refine blk_drewN ?_ _ | refine blk_drew ?_ | refine blk_alloc ?_ _)); exact BK225.out⟩, ⟨by (with_reducible repeat (first | refine blk_drewN ?_ _ | refine blk_drew ?_ | refine blk_alloc ?_ _)); exact BK235.out⟩, ⟨by repeat (first | (with_reducible first | exact HB.out | apply below_alloc | apply pw_below_drewN | apply below_drew1 | refine below_set ?_ GE205.out | refine below_set ?_ GE215.out | refine below_set ?_ GE225.out | refine below_set ?_ GE235.out) | exact HB.out)⟩⟩
           ·rw [if_neg c52] at H
            have c52b0 : (t219 == 2) = false := beq_eq_false_iff_ne.mpr c52
            have c52b1 : (t219 != 2) = true := bne_iff_ne.mpr c52
            have H' := Aside0.mk H
            clear H
            have hnb73 := NB205_215.out
            have hnc73 := NB215_205.out
            have hnb74 := NB205_225.out
            have hnc74 := NB225_205.out
            have hnb75 := NB205_235.out
            have hnc75 := NB235_205.out
            have hcz76_0 : wc.cell? ⟨gb205, 0, none⟩ = some (.int .i64 t199) := (blk_cell BK205.out 0).trans rfl
            have hcz76_1 : wc.cell? ⟨gb205, 1, none⟩ = some (.int .i64 t200) := (blk_cell BK205.out 1).trans rfl
            have hcz76_2 : wc.cell? ⟨gb205, 2, none⟩ = some (.int .i64 t201) := (blk_cell BK205.out 2).trans rfl
            have hcz76_3 : wc.cell? ⟨gb205, 3, none⟩ = some (.string t202) := (blk_cell BK205.out 3).trans rfl
            have hcz76_4 : wc.cell? ⟨gb205, 4, none⟩ = some (.int .i64 t203) := (blk_cell BK205.out 4).trans rfl
            have hfz76_0 := blk_frozen BK205.out 0
            have hfz76_1 := blk_frozen BK205.out 1
            have hfz76_2 := blk_frozen BK205.out 2
            have hfz76_3 := blk_frozen BK205.out 3
            have hfz76_4 := blk_frozen BK205.out 4
            have hnb77 := NB215_225.out
            have hnc77 := NB225_215.out
            have hnb78 := NB215_235.out
            have hnc78 := NB235_215.out
            have hcz79_0 : wc.cell? ⟨gb215, 0, none⟩ = some (.int .i64 t209) := (blk_cell BK215.out 0).trans rfl
            have hcz79_1 : wc.cell? ⟨gb215, 1, none⟩ = some (.int .i64 t210) := (blk_cell BK215.out 1).trans rfl
            have hcz79_2 : wc.cell? ⟨gb215, 2, none⟩ = some (.int .i64 t211) := (blk_cell BK215.out 2).trans rfl
            have hcz79_3 : wc.cell? ⟨gb215, 3, none⟩ = some (.string t212) := (blk_cell BK215.out 3).trans rfl
            have hcz79_4 : wc.cell? ⟨gb215, 4, none⟩ = some (.int .i64 t213) := (blk_cell BK215.out 4).trans rfl
            have hfz79_0 := blk_frozen BK215.out 0
            have hfz79_1 := blk_frozen BK215.out 1
            have hfz79_2 := blk_frozen BK215.out 2
            have hfz79_3 := blk_frozen BK215.out 3
            have hfz79_4 := blk_frozen BK215.out 4
            have hnb80 := NB225_235.out
            have hnc80 := NB235_225.out
            have hcz81_0 : wc.cell? ⟨gb225, 0, none⟩ = some (.int .i64 t219) := (blk_cell BK225.out 0).trans rfl
            have hcz81_1 : wc.cell? ⟨gb225, 1, none⟩ = some (.int .i64 t220) := (blk_cell BK225.out 1).trans rfl
            have hcz81_2 : wc.cell? ⟨gb225, 2, none⟩ = some (.int .i64 t221) := (blk_cell BK225.out 2).trans rfl
            have hcz81_3 : wc.cell? ⟨gb225, 3, none⟩ = some (.string t222) := (blk_cell BK225.out 3).trans rfl
            have hcz81_4 : wc.cell? ⟨gb225, 4, none⟩ = some (.int .i64 t223) := (blk_cell BK225.out 4).trans rfl
            have hfz81_0 := blk_frozen BK225.out 0
            have hfz81_1 := blk_frozen BK225.out 1
            have hfz81_2 := blk_frozen BK225.out 2
            have hfz81_3 := blk_frozen BK225.out 3
            have hfz81_4 := blk_frozen BK225.out 4
            go_wp2
            go_meet
            case rel => exact ⟨_, (false), (by first | rfl | (simp; done) | (simp [*]; done)), H', ⟨by have := HJ7.out; first | omega | exact Nat.le_refl _⟩, ⟨by (with_reducible repeat (first | refine blk_drewN ?_ _ | refine blk_drew ?_ | refine blk_alloc ?_ _)); exact BK205.out⟩, ⟨by (with_reducible repeat (first | refine blk_drewN ?_ _ | refine blk_drew ?_ | refine blk_alloc ?_ _)); exact BK215.out⟩, ⟨by (with_reducible repeat (first | refine blk_drewN ?_ _ | refine blk_drew ?_ | refine blk_alloc ?_ _)); exact BK225.out⟩, ⟨by (with_reducible repeat (first | refine blk_drewN ?_ _ | refine blk_drew ?_ | refine blk_alloc ?_ _)); exact BK235.out⟩, ⟨by repeat (first | (with_reducible first | exact HB.out | apply below_alloc | apply pw_below_drewN | apply below_drew1 | refine below_set ?_ GE205.out | refine below_set ?_ GE215.out | refine below_set ?_ GE225.out | refine below_set ?_ GE235.out) | exact HB.out)⟩⟩
          ·replace c51 := Bool.eq_false_iff.mpr c51
           subst c51
           have H1 : (tmesislaw06_TokenDots.j1 kj7 false) = some r := by rw [if_neg (show ¬ (false = true) by decide)] at H; exact H
           clear H
           have H := H1
           clear H1
           have H' := Aside0.mk H
           clear H
           have hnb82 := NB205_215.out
           have hnc82 := NB215_205.out
           have hnb83 := NB205_225.out
           have hnc83 := NB225_205.out
           have hnb84 := NB205_235.out
           have hnc84 := NB235_205.out
           have hcz85_0 : wc.cell? ⟨gb205, 0, none⟩ = some (.int .i64 t199) := (blk_cell BK205.out 0).trans rfl
           have hcz85_1 : wc.cell? ⟨gb205, 1, none⟩ = some (.int .i64 t200) := (blk_cell BK205.out 1).trans rfl
           have hcz85_2 : wc.cell? ⟨gb205, 2, none⟩ = some (.int .i64 t201) := (blk_cell BK205.out 2).trans rfl
           have hcz85_3 : wc.cell? ⟨gb205, 3, none⟩ = some (.string t202) := (blk_cell BK205.out 3).trans rfl
           have hcz85_4 : wc.cell? ⟨gb205, 4, none⟩ = some (.int .i64 t203) := (blk_cell BK205.out 4).trans rfl
           have hfz85_0 := blk_frozen BK205.out 0
           have hfz85_1 := blk_frozen BK205.out 1
           have hfz85_2 := blk_frozen BK205.out 2
           have hfz85_3 := blk_frozen BK205.out 3
           have hfz85_4 := blk_frozen BK205.out 4
           have hnb86 := NB215_225.out
           have hnc86 := NB225_215.out
           have hnb87 := NB215_235.out
           have hnc87 := NB235_215.out
           have hcz88_0 : wc.cell? ⟨gb215, 0, none⟩ = some (.int .i64 t209) := (blk_cell BK215.out 0).trans rfl
           have hcz88_1 : wc.cell? ⟨gb215, 1, none⟩ = some (.int .i64 t210) := (blk_cell BK215.out 1).trans rfl
           have hcz88_2 : wc.cell? ⟨gb215, 2, none⟩ = some (.int .i64 t211) := (blk_cell BK215.out 2).trans rfl
           have hcz88_3 : wc.cell? ⟨gb215, 3, none⟩ = some (.string t212) := (blk_cell BK215.out 3).trans rfl
           have hcz88_4 : wc.cell? ⟨gb215, 4, none⟩ = some (.int .i64 t213) := (blk_cell BK215.out 4).trans rfl
           have hfz88_0 := blk_frozen BK215.out 0
           have hfz88_1 := blk_frozen BK215.out 1
           have hfz88_2 := blk_frozen BK215.out 2
           have hfz88_3 := blk_frozen BK215.out 3
           have hfz88_4 := blk_frozen BK215.out 4
           go_wp2
           go_meet
           case rel => exact ⟨_, (false), (by first | rfl | (simp; done) | (simp [*]; done)), H', ⟨by have := HJ7.out; first | omega | exact Nat.le_refl _⟩, ⟨by (with_reducible repeat (first | refine blk_drewN ?_ _ | refine blk_drew ?_ | refine blk_alloc ?_ _)); exact BK205.out⟩, ⟨by (with_reducible repeat (first | refine blk_drewN ?_ _ | refine blk_drew ?_ | refine blk_alloc ?_ _)); exact BK215.out⟩, ⟨by (with_reducible repeat (first | refine blk_drewN ?_ _ | refine blk_drew ?_ | refine blk_alloc ?_ _)); exact BK225.out⟩, ⟨by (with_reducible repeat (first | refine blk_drewN ?_ _ | refine blk_drew ?_ | refine blk_alloc ?_ _)); exact BK235.out⟩, ⟨by repeat (first | (with_reducible first | exact HB.out | apply below_alloc | apply pw_below_drewN | apply below_drew1 | refine below_set ?_ GE205.out | refine below_set ?_ GE215.out | refine below_set ?_ GE225.out | refine below_set ?_ GE235.out) | exact HB.out)⟩⟩
         ·rw [if_neg c50] at H
          have c50b0 : (t209 == 7) = false := beq_eq_false_iff_ne.mpr c50
          have c50b1 : (t209 != 7) = true := bne_iff_ne.mpr c50
          have H' := Aside0.mk H
          clear H
          have hnb89 := NB205_215.out
          have hnc89 := NB215_205.out
          have hnb90 := NB205_225.out
          have hnc90 := NB225_205.out
          have hnb91 := NB205_235.out
          have hnc91 := NB235_205.out
          have hcz92_0 : wc.cell? ⟨gb205, 0, none⟩ = some (.int .i64 t199) := (blk_cell BK205.out 0).trans rfl
          have hcz92_1 : wc.cell? ⟨gb205, 1, none⟩ = some (.int .i64 t200) := (blk_cell BK205.out 1).trans rfl
          have hcz92_2 : wc.cell? ⟨gb205, 2, none⟩ = some (.int .i64 t201) := (blk_cell BK205.out 2).trans rfl
          have hcz92_3 : wc.cell? ⟨gb205, 3, none⟩ = some (.string t202) := (blk_cell BK205.out 3).trans rfl
          have hcz92_4 : wc.cell? ⟨gb205, 4, none⟩ = some (.int .i64 t203) := (blk_cell BK205.out 4).trans rfl
          have hfz92_0 := blk_frozen BK205.out 0
          have hfz92_1 := blk_frozen BK205.out 1
          have hfz92_2 := blk_frozen BK205.out 2
          have hfz92_3 := blk_frozen BK205.out 3
          have hfz92_4 := blk_frozen BK205.out 4
          have hnb93 := NB215_225.out
          have hnc93 := NB225_215.out
          have hnb94 := NB215_235.out
          have hnc94 := NB235_215.out
          have hcz95_0 : wc.cell? ⟨gb215, 0, none⟩ = some (.int .i64 t209) := (blk_cell BK215.out 0).trans rfl
          have hcz95_1 : wc.cell? ⟨gb215, 1, none⟩ = some (.int .i64 t210) := (blk_cell BK215.out 1).trans rfl
          have hcz95_2 : wc.cell? ⟨gb215, 2, none⟩ = some (.int .i64 t211) := (blk_cell BK215.out 2).trans rfl
          have hcz95_3 : wc.cell? ⟨gb215, 3, none⟩ = some (.string t212) := (blk_cell BK215.out 3).trans rfl
          have hcz95_4 : wc.cell? ⟨gb215, 4, none⟩ = some (.int .i64 t213) := (blk_cell BK215.out 4).trans rfl
          have hfz95_0 := blk_frozen BK215.out 0
          have hfz95_1 := blk_frozen BK215.out 1
          have hfz95_2 := blk_frozen BK215.out 2
          have hfz95_3 := blk_frozen BK215.out 3
          have hfz95_4 := blk_frozen BK215.out 4
          go_wp2
          go_meet
          case rel => exact ⟨_, (false), (by first | rfl | (simp; done) | (simp [*]; done)), H', ⟨by have := HJ7.out; first | omega | exact Nat.le_refl _⟩, ⟨by (with_reducible repeat (first | refine blk_drewN ?_ _ | refine blk_drew ?_ | refine blk_alloc ?_ _)); exact BK205.out⟩, ⟨by (with_reducible repeat (first | refine blk_drewN ?_ _ | refine blk_drew ?_ | refine blk_alloc ?_ _)); exact BK215.out⟩, ⟨by (with_reducible repeat (first | refine blk_drewN ?_ _ | refine blk_drew ?_ | refine blk_alloc ?_ _)); exact BK225.out⟩, ⟨by (with_reducible repeat (first | refine blk_drewN ?_ _ | refine blk_drew ?_ | refine blk_alloc ?_ _)); exact BK235.out⟩, ⟨by repeat (first | (with_reducible first | exact HB.out | apply below_alloc | apply pw_below_drewN | apply below_drew1 | refine below_set ?_ GE205.out | refine below_set ?_ GE215.out | refine below_set ?_ GE225.out | refine below_set ?_ GE235.out) | exact HB.out)⟩⟩
        ·replace c49 := Bool.eq_false_iff.mpr c49
         subst c49
         have H1 : (tmesislaw06_TokenDots.j1 kj7 false) = some r := by rw [if_neg (show ¬ (false = true) by decide)] at H; exact H
         clear H
         have H := H1
         clear H1
         have H' := Aside0.mk H
         clear H
         have hnb96 := NB205_215.out
         have hnc96 := NB215_205.out
         have hnb97 := NB205_225.out
         have hnc97 := NB225_205.out
         have hnb98 := NB205_235.out
         have hnc98 := NB235_205.out
         have hcz99_0 : wc.cell? ⟨gb205, 0, none⟩ = some (.int .i64 t199) := (blk_cell BK205.out 0).trans rfl
         have hcz99_1 : wc.cell? ⟨gb205, 1, none⟩ = some (.int .i64 t200) := (blk_cell BK205.out 1).trans rfl
         have hcz99_2 : wc.cell? ⟨gb205, 2, none⟩ = some (.int .i64 t201) := (blk_cell BK205.out 2).trans rfl
         have hcz99_3 : wc.cell? ⟨gb205, 3, none⟩ = some (.string t202) := (blk_cell BK205.out 3).trans rfl
         have hcz99_4 : wc.cell? ⟨gb205, 4, none⟩ = some (.int .i64 t203) := (blk_cell BK205.out 4).trans rfl
         have hfz99_0 := blk_frozen BK205.out 0
         have hfz99_1 := blk_frozen BK205.out 1
         have hfz99_2 := blk_frozen BK205.out 2
         have hfz99_3 := blk_frozen BK205.out 3
         have hfz99_4 := blk_frozen BK205.out 4
         go_wp2
         go_meet
         case rel => exact ⟨_, (false), (by first | rfl | (simp; done) | (simp [*]; done)), H', ⟨by have := HJ7.out; first | omega | exact Nat.le_refl _⟩, ⟨by (with_reducible repeat (first | refine blk_drewN ?_ _ | refine blk_drew ?_ | refine blk_alloc ?_ _)); exact BK205.out⟩, ⟨by (with_reducible repeat (first | refine blk_drewN ?_ _ | refine blk_drew ?_ | refine blk_alloc ?_ _)); exact BK215.out⟩, ⟨by (with_reducible repeat (first | refine blk_drewN ?_ _ | refine blk_drew ?_ | refine blk_alloc ?_ _)); exact BK225.out⟩, ⟨by (with_reducible repeat (first | refine blk_drewN ?_ _ | refine blk_drew ?_ | refine blk_alloc ?_ _)); exact BK235.out⟩, ⟨by repeat (first | (with_reducible first | exact HB.out | apply below_alloc | apply pw_below_drewN | apply below_drew1 | refine below_set ?_ GE205.out | refine below_set ?_ GE215.out | refine below_set ?_ GE225.out | refine below_set ?_ GE235.out) | exact HB.out)⟩⟩
       ·replace c48 := Bool.eq_false_iff.mpr c48
        subst c48
        have H1 : (if t199 = 2 then (if t214 = true then (if t209 = 7 then (if t224 = true then (if t219 = 2 then (if t234 = true then (tmesislaw06_TokenDots.j1 kj7 (t229 == 7)) else (tmesislaw06_TokenDots.j1 kj7 false)) else (tmesislaw06_TokenDots.j1 kj7 false)) else (tmesislaw06_TokenDots.j1 kj7 false)) else (tmesislaw06_TokenDots.j1 kj7 false)) else (tmesislaw06_TokenDots.j1 kj7 false)) else (tmesislaw06_TokenDots.j1 kj7 false)) = some r := by rw [if_neg (show ¬ (false = true) by decide)] at H; exact H
        clear H
        have H := H1
        clear H1
        by_cases c100 : t199 = 2
        ·rw [if_pos c100] at H
         have c100b0 : (t199 == 2) = true := beq_iff_eq.mpr c100
         have c100b1 : (t199 != 2) = false := bne_eq_false_iff_eq.mpr c100
         clear c100
         by_cases c101 : t214 = true
         ·subst c101
          have H1 : (if t209 = 7 then (if t224 = true then (if t219 = 2 then (if t234 = true then (tmesislaw06_TokenDots.j1 kj7 (t229 == 7)) else (tmesislaw06_TokenDots.j1 kj7 false)) else (tmesislaw06_TokenDots.j1 kj7 false)) else (tmesislaw06_TokenDots.j1 kj7 false)) else (tmesislaw06_TokenDots.j1 kj7 false)) = some r := by rw [if_pos rfl] at H; exact H
          clear H
          have H := H1
          clear H1
          by_cases c102 : t209 = 7
          ·rw [if_pos c102] at H
           have c102b0 : (t209 == 7) = true := beq_iff_eq.mpr c102
           have c102b1 : (t209 != 7) = false := bne_eq_false_iff_eq.mpr c102
           clear c102
           by_cases c103 : t224 = true
           ·subst c103
            have H1 : (if t219 = 2 then (if t234 = true then (tmesislaw06_TokenDots.j1 kj7 (t229 == 7)) else (tmesislaw06_TokenDots.j1 kj7 false)) else (tmesislaw06_TokenDots.j1 kj7 false)) = some r := by rw [if_pos rfl] at H; exact H
            clear H
            have H := H1
            clear H1
            by_cases c104 : t219 = 2
            ·rw [if_pos c104] at H
             have c104b0 : (t219 == 2) = true := beq_iff_eq.mpr c104
             have c104b1 : (t219 != 2) = false := bne_eq_false_iff_eq.mpr c104
             clear c104
             by_cases c105 : t234 = true
             ·subst c105
              have H1 : (tmesislaw06_TokenDots.j1 kj7 (t229 == 7)) = some r := by rw [if_pos rfl] at H; exact H
              clear H
              have H := H1
              clear H1
              have H' := Aside0.mk H
              clear H
              have hnb106 := NB205_215.out
              have hnc106 := NB215_205.out
              have hnb107 := NB205_225.out
              have hnc107 := NB225_205.out
              have hnb108 := NB205_235.out
              have hnc108 := NB235_205.out
              have hcz109_0 : wc.cell? ⟨gb205, 0, none⟩ = some (.int .i64 t199) := (blk_cell BK205.out 0).trans rfl
              have hcz109_1 : wc.cell? ⟨gb205, 1, none⟩ = some (.int .i64 t200) := (blk_cell BK205.out 1).trans rfl
              have hcz109_2 : wc.cell? ⟨gb205, 2, none⟩ = some (.int .i64 t201) := (blk_cell BK205.out 2).trans rfl
              have hcz109_3 : wc.cell? ⟨gb205, 3, none⟩ = some (.string t202) := (blk_cell BK205.out 3).trans rfl
              have hcz109_4 : wc.cell? ⟨gb205, 4, none⟩ = some (.int .i64 t203) := (blk_cell BK205.out 4).trans rfl
              have hfz109_0 := blk_frozen BK205.out 0
              have hfz109_1 := blk_frozen BK205.out 1
              have hfz109_2 := blk_frozen BK205.out 2
              have hfz109_3 := blk_frozen BK205.out 3
              have hfz109_4 := blk_frozen BK205.out 4
              have hnb110 := NB215_225.out
              have hnc110 := NB225_215.out
              have hnb111 := NB215_235.out
              have hnc111 := NB235_215.out
              have hcz112_0 : wc.cell? ⟨gb215, 0, none⟩ = some (.int .i64 t209) := (blk_cell BK215.out 0).trans rfl
              have hcz112_1 : wc.cell? ⟨gb215, 1, none⟩ = some (.int .i64 t210) := (blk_cell BK215.out 1).trans rfl
              have hcz112_2 : wc.cell? ⟨gb215, 2, none⟩ = some (.int .i64 t211) := (blk_cell BK215.out 2).trans rfl
              have hcz112_3 : wc.cell? ⟨gb215, 3, none⟩ = some (.string t212) := (blk_cell BK215.out 3).trans rfl
              have hcz112_4 : wc.cell? ⟨gb215, 4, none⟩ = some (.int .i64 t213) := (blk_cell BK215.out 4).trans rfl
              have hfz112_0 := blk_frozen BK215.out 0
              have hfz112_1 := blk_frozen BK215.out 1
              have hfz112_2 := blk_frozen BK215.out 2
              have hfz112_3 := blk_frozen BK215.out 3
              have hfz112_4 := blk_frozen BK215.out 4
              have hnb113 := NB225_235.out
              have hnc113 := NB235_225.out
              have hcz114_0 : wc.cell? ⟨gb225, 0, none⟩ = some (.int .i64 t219) := (blk_cell BK225.out 0).trans rfl
              have hcz114_1 : wc.cell? ⟨gb225, 1, none⟩ = some (.int .i64 t220) := (blk_cell BK225.out 1).trans rfl
              have hcz114_2 : wc.cell? ⟨gb225, 2, none⟩ = some (.int .i64 t221) := (blk_cell BK225.out 2).trans rfl
              have hcz114_3 : wc.cell? ⟨gb225, 3, none⟩ = some (.string t222) := (blk_cell BK225.out 3).trans rfl
              have hcz114_4 : wc.cell? ⟨gb225, 4, none⟩ = some (.int .i64 t223) := (blk_cell BK225.out 4).trans rfl
              have hfz114_0 := blk_frozen BK225.out 0
              have hfz114_1 := blk_frozen BK225.out 1
              have hfz114_2 := blk_frozen BK225.out 2
              have hfz114_3 := blk_frozen BK225.out 3
              have hfz114_4 := blk_frozen BK225.out 4
              have hcz115_0 : wc.cell? ⟨gb235, 0, none⟩ = some (.int .i64 t229) := (blk_cell BK235.out 0).trans rfl
              have hcz115_1 : wc.cell? ⟨gb235, 1, none⟩ = some (.int .i64 t230) := (blk_cell BK235.out 1).trans rfl
              have hcz115_2 : wc.cell? ⟨gb235, 2, none⟩ = some (.int .i64 t231) := (blk_cell BK235.out 2).trans rfl
              have hcz115_3 : wc.cell? ⟨gb235, 3, none⟩ = some (.string t232) := (blk_cell BK235.out 3).trans rfl
              have hcz115_4 : wc.cell? ⟨gb235, 4, none⟩ = some (.int .i64 t233) := (blk_cell BK235.out 4).trans rfl
              have hfz115_0 := blk_frozen BK235.out 0
              have hfz115_1 := blk_frozen BK235.out 1
              have hfz115_2 := blk_frozen BK235.out 2
              have hfz115_3 := blk_frozen BK235.out 3
              have hfz115_4 := blk_frozen BK235.out 4
              go_wp2
              go_meet
              case rel => exact ⟨_, ((t229 == 7)), (by first | rfl | (simp; done) | (simp [*]; done)), H', ⟨by have := HJ7.out; first | omega | exact Nat.le_refl _⟩, ⟨by (with_reducible repeat (first | refine blk_drewN ?_ _ | refine blk_drew ?_ | refine blk_alloc ?_ _)); exact BK205.out⟩, ⟨by (with_reducible repeat (first | refine blk_drewN ?_ _ | refine blk_drew ?_ | refine blk_alloc ?_ _)); exact BK215.out⟩, ⟨by (with_reducible repeat (first | refine blk_drewN ?_ _ | refine blk_drew ?_ | refine blk_alloc ?_ _)); exact BK225.out⟩, ⟨by (with_reducible repeat (first | refine blk_drewN ?_ _ | refine blk_drew ?_ | refine blk_alloc ?_ _)); exact BK235.out⟩, ⟨by repeat (first | (with_reducible first | exact HB.out | apply below_alloc | apply pw_below_drewN | apply below_drew1 | refine below_set ?_ GE205.out | refine below_set ?_ GE215.out | refine below_set ?_ GE225.out | refine below_set ?_ GE235.out) | exact HB.out)⟩⟩
             ·replace c105 := Bool.eq_false_iff.mpr c105
              subst c105
              have H1 : (tmesislaw06_TokenDots.j1 kj7 false) = some r := by rw [if_neg (show ¬ (false = true) by decide)] at H; exact H
              clear H
              have H := H1
              clear H1
              have H' := Aside0.mk H
              clear H
              have hnb116 := NB205_215.out
              have hnc116 := NB215_205.out
              have hnb117 := NB205_225.out
              have hnc117 := NB225_205.out
              have hnb118 := NB205_235.out
              have hnc118 := NB235_205.out
              have hcz119_0 : wc.cell? ⟨gb205, 0, none⟩ = some (.int .i64 t199) := (blk_cell BK205.out 0).trans rfl
              have hcz119_1 : wc.cell? ⟨gb205, 1, none⟩ = some (.int .i64 t200) := (blk_cell BK205.out 1).trans rfl
              have hcz119_2 : wc.cell? ⟨gb205, 2, none⟩ = some (.int .i64 t201) := (blk_cell BK205.out 2).trans rfl
              have hcz119_3 : wc.cell? ⟨gb205, 3, none⟩ = some (.string t202) := (blk_cell BK205.out 3).trans rfl
              have hcz119_4 : wc.cell? ⟨gb205, 4, none⟩ = some (.int .i64 t203) := (blk_cell BK205.out 4).trans rfl
              have hfz119_0 := blk_frozen BK205.out 0
              have hfz119_1 := blk_frozen BK205.out 1
              have hfz119_2 := blk_frozen BK205.out 2
              have hfz119_3 := blk_frozen BK205.out 3
              have hfz119_4 := blk_frozen BK205.out 4
              have hnb120 := NB215_225.out
              have hnc120 := NB225_215.out
              have hnb121 := NB215_235.out
              have hnc121 := NB235_215.out
              have hcz122_0 : wc.cell? ⟨gb215, 0, none⟩ = some (.int .i64 t209) := (blk_cell BK215.out 0).trans rfl
              have hcz122_1 : wc.cell? ⟨gb215, 1, none⟩ = some (.int .i64 t210) := (blk_cell BK215.out 1).trans rfl
              have hcz122_2 : wc.cell? ⟨gb215, 2, none⟩ = some (.int .i64 t211) := (blk_cell BK215.out 2).trans rfl
              have hcz122_3 : wc.cell? ⟨gb215, 3, none⟩ = some (.string t212) := (blk_cell BK215.out 3).trans rfl
              have hcz122_4 : wc.cell? ⟨gb215, 4, none⟩ = some (.int .i64 t213) := (blk_cell BK215.out 4).trans rfl
              have hfz122_0 := blk_frozen BK215.out 0
              have hfz122_1 := blk_frozen BK215.out 1
              have hfz122_2 := blk_frozen BK215.out 2
              have hfz122_3 := blk_frozen BK215.out 3
              have hfz122_4 := blk_frozen BK215.out 4
              have hnb123 := NB225_235.out
              have hnc123 := NB235_225.out
              have hcz124_0 : wc.cell? ⟨gb225, 0, none⟩ = some (.int .i64 t219) := (blk_cell BK225.out 0).trans rfl
              have hcz124_1 : wc.cell? ⟨gb225, 1, none⟩ = some (.int .i64 t220) := (blk_cell BK225.out 1).trans rfl
              have hcz124_2 : wc.cell? ⟨gb225, 2, none⟩ = some (.int .i64 t221) := (blk_cell BK225.out 2).trans rfl
              have hcz124_3 : wc.cell? ⟨gb225, 3, none⟩ = some (.string t222) := (blk_cell BK225.out 3).trans rfl
              have hcz124_4 : wc.cell? ⟨gb225, 4, none⟩ = some (.int .i64 t223) := (blk_cell BK225.out 4).trans rfl
              have hfz124_0 := blk_frozen BK225.out 0
              have hfz124_1 := blk_frozen BK225.out 1
              have hfz124_2 := blk_frozen BK225.out 2
              have hfz124_3 := blk_frozen BK225.out 3
              have hfz124_4 := blk_frozen BK225.out 4
              go_wp2
              go_meet
              case rel => exact ⟨_, (false), (by first | rfl | (simp; done) | (simp [*]; done)), H', ⟨by have := HJ7.out; first | omega | exact Nat.le_refl _⟩, ⟨by (with_reducible repeat (first | refine blk_drewN ?_ _ | refine blk_drew ?_ | refine blk_alloc ?_ _)); exact BK205.out⟩, ⟨by (with_reducible repeat (first | refine blk_drewN ?_ _ | refine blk_drew ?_ | refine blk_alloc ?_ _)); exact BK215.out⟩, ⟨by (with_reducible repeat (first | refine blk_drewN ?_ _ | refine blk_drew ?_ | refine blk_alloc ?_ _)); exact BK225.out⟩, ⟨by (with_reducible repeat (first | refine blk_drewN ?_ _ | refine blk_drew ?_ | refine blk_alloc ?_ _)); exact BK235.out⟩, ⟨by repeat (first | (with_reducible first | exact HB.out | apply below_alloc | apply pw_below_drewN | apply below_drew1 | refine below_set ?_ GE205.out | refine below_set ?_ GE215.out | refine below_set ?_ GE225.out | refine below_set ?_ GE235.out) | exact HB.out)⟩⟩
            ·rw [if_neg c104] at H
             have c104b0 : (t219 == 2) = false := beq_eq_false_iff_ne.mpr c104
             have c104b1 : (t219 != 2) = true := bne_iff_ne.mpr c104
             have H' := Aside0.mk H
             clear H
             have hnb125 := NB205_215.out
             have hnc125 := NB215_205.out
             have hnb126 := NB205_225.out
             have hnc126 := NB225_205.out
             have hnb127 := NB205_235.out
             have hnc127 := NB235_205.out
             have hcz128_0 : wc.cell? ⟨gb205, 0, none⟩ = some (.int .i64 t199) := (blk_cell BK205.out 0).trans rfl
             have hcz128_1 : wc.cell? ⟨gb205, 1, none⟩ = some (.int .i64 t200) := (blk_cell BK205.out 1).trans rfl
             have hcz128_2 : wc.cell? ⟨gb205, 2, none⟩ = some (.int .i64 t201) := (blk_cell BK205.out 2).trans rfl
             have hcz128_3 : wc.cell? ⟨gb205, 3, none⟩ = some (.string t202) := (blk_cell BK205.out 3).trans rfl
             have hcz128_4 : wc.cell? ⟨gb205, 4, none⟩ = some (.int .i64 t203) := (blk_cell BK205.out 4).trans rfl
             have hfz128_0 := blk_frozen BK205.out 0
             have hfz128_1 := blk_frozen BK205.out 1
             have hfz128_2 := blk_frozen BK205.out 2
             have hfz128_3 := blk_frozen BK205.out 3
             have hfz128_4 := blk_frozen BK205.out 4
             have hnb129 := NB215_225.out
             have hnc129 := NB225_215.out
             have hnb130 := NB215_235.out
             have hnc130 := NB235_215.out
             have hcz131_0 : wc.cell? ⟨gb215, 0, none⟩ = some (.int .i64 t209) := (blk_cell BK215.out 0).trans rfl
             have hcz131_1 : wc.cell? ⟨gb215, 1, none⟩ = some (.int .i64 t210) := (blk_cell BK215.out 1).trans rfl
             have hcz131_2 : wc.cell? ⟨gb215, 2, none⟩ = some (.int .i64 t211) := (blk_cell BK215.out 2).trans rfl
             have hcz131_3 : wc.cell? ⟨gb215, 3, none⟩ = some (.string t212) := (blk_cell BK215.out 3).trans rfl
             have hcz131_4 : wc.cell? ⟨gb215, 4, none⟩ = some (.int .i64 t213) := (blk_cell BK215.out 4).trans rfl
             have hfz131_0 := blk_frozen BK215.out 0
             have hfz131_1 := blk_frozen BK215.out 1
             have hfz131_2 := blk_frozen BK215.out 2
             have hfz131_3 := blk_frozen BK215.out 3
             have hfz131_4 := blk_frozen BK215.out 4
             have hnb132 := NB225_235.out
             have hnc132 := NB235_225.out
             have hcz133_0 : wc.cell? ⟨gb225, 0, none⟩ = some (.int .i64 t219) := (blk_cell BK225.out 0).trans rfl
             have hcz133_1 : wc.cell? ⟨gb225, 1, none⟩ = some (.int .i64 t220) := (blk_cell BK225.out 1).trans rfl
             have hcz133_2 : wc.cell? ⟨gb225, 2, none⟩ = some (.int .i64 t221) := (blk_cell BK225.out 2).trans rfl
             have hcz133_3 : wc.cell? ⟨gb225, 3, none⟩ = some (.string t222) := (blk_cell BK225.out 3).trans rfl
             have hcz133_4 : wc.cell? ⟨gb225, 4, none⟩ = some (.int .i64 t223) := (blk_cell BK225.out 4).trans rfl
             have hfz133_0 := blk_frozen BK225.out 0
             have hfz133_1 := blk_frozen BK225.out 1
             have hfz133_2 := blk_frozen BK225.out 2
             have hfz133_3 := blk_frozen BK225.out 3
             have hfz133_4 := blk_frozen BK225.out 4
             go_wp2
             go_meet
             case rel => exact ⟨_, (false), (by first | rfl | (simp; done) | (simp [*]; done)), H', ⟨by have := HJ7.out; first | omega | exact Nat.le_refl _⟩, ⟨by (with_reducible repeat (first | refine blk_drewN ?_ _ | refine blk_drew ?_ | refine blk_alloc ?_ _)); exact BK205.out⟩, ⟨by (with_reducible repeat (first | refine blk_drewN ?_ _ | refine blk_drew ?_ | refine blk_alloc ?_ _)); exact BK215.out⟩, ⟨by (with_reducible repeat (first | refine blk_drewN ?_ _ | refine blk_drew ?_ | refine blk_alloc ?_ _)); exact BK225.out⟩, ⟨by (with_reducible repeat (first | refine blk_drewN ?_ _ | refine blk_drew ?_ | refine blk_alloc ?_ _)); exact BK235.out⟩, ⟨by repeat (first | (with_reducible first | exact HB.out | apply below_alloc | apply pw_below_drewN | apply below_drew1 | refine below_set ?_ GE205.out | refine below_set ?_ GE215.out | refine below_set ?_ GE225.out | refine below_set ?_ GE235.out) | exact HB.out)⟩⟩
           ·replace c103 := Bool.eq_false_iff.mpr c103
            subst c103
            have H1 : (tmesislaw06_TokenDots.j1 kj7 false) = some r := by rw [if_neg (show ¬ (false = true) by decide)] at H; exact H
            clear H
            have H := H1
            clear H1
            have H' := Aside0.mk H
            clear H
            have hnb134 := NB205_215.out
            have hnc134 := NB215_205.out
            have hnb135 := NB205_225.out
            have hnc135 := NB225_205.out
            have hnb136 := NB205_235.out
            have hnc136 := NB235_205.out
            have hcz137_0 : wc.cell? ⟨gb205, 0, none⟩ = some (.int .i64 t199) := (blk_cell BK205.out 0).trans rfl
            have hcz137_1 : wc.cell? ⟨gb205, 1, none⟩ = some (.int .i64 t200) := (blk_cell BK205.out 1).trans rfl
            have hcz137_2 : wc.cell? ⟨gb205, 2, none⟩ = some (.int .i64 t201) := (blk_cell BK205.out 2).trans rfl
            have hcz137_3 : wc.cell? ⟨gb205, 3, none⟩ = some (.string t202) := (blk_cell BK205.out 3).trans rfl
            have hcz137_4 : wc.cell? ⟨gb205, 4, none⟩ = some (.int .i64 t203) := (blk_cell BK205.out 4).trans rfl
            have hfz137_0 := blk_frozen BK205.out 0
            have hfz137_1 := blk_frozen BK205.out 1
            have hfz137_2 := blk_frozen BK205.out 2
            have hfz137_3 := blk_frozen BK205.out 3
            have hfz137_4 := blk_frozen BK205.out 4
            have hnb138 := NB215_225.out
            have hnc138 := NB225_215.out
            have hnb139 := NB215_235.out
            have hnc139 := NB235_215.out
            have hcz140_0 : wc.cell? ⟨gb215, 0, none⟩ = some (.int .i64 t209) := (blk_cell BK215.out 0).trans rfl
            have hcz140_1 : wc.cell? ⟨gb215, 1, none⟩ = some (.int .i64 t210) := (blk_cell BK215.out 1).trans rfl
            have hcz140_2 : wc.cell? ⟨gb215, 2, none⟩ = some (.int .i64 t211) := (blk_cell BK215.out 2).trans rfl
            have hcz140_3 : wc.cell? ⟨gb215, 3, none⟩ = some (.string t212) := (blk_cell BK215.out 3).trans rfl
            have hcz140_4 : wc.cell? ⟨gb215, 4, none⟩ = some (.int .i64 t213) := (blk_cell BK215.out 4).trans rfl
            have hfz140_0 := blk_frozen BK215.out 0
            have hfz140_1 := blk_frozen BK215.out 1
            have hfz140_2 := blk_frozen BK215.out 2
            have hfz140_3 := blk_frozen BK215.out 3
            have hfz140_4 := blk_frozen BK215.out 4
            go_wp2
            go_meet
            case rel => exact ⟨_, (false), (by first | rfl | (simp; done) | (simp [*]; done)), H', ⟨by have := HJ7.out; first | omega | exact Nat.le_refl _⟩, ⟨by (with_reducible repeat (first | refine blk_drewN ?_ _ | refine blk_drew ?_ | refine blk_alloc ?_ _)); exact BK205.out⟩, ⟨by (with_reducible repeat (first | refine blk_drewN ?_ _ | refine blk_drew ?_ | refine blk_alloc ?_ _)); exact BK215.out⟩, ⟨by (with_reducible repeat (first | refine blk_drewN ?_ _ | refine blk_drew ?_ | refine blk_alloc ?_ _)); exact BK225.out⟩, ⟨by (with_reducible repeat (first | refine blk_drewN ?_ _ | refine blk_drew ?_ | refine blk_alloc ?_ _)); exact BK235.out⟩, ⟨by repeat (first | (with_reducible first | exact HB.out | apply below_alloc | apply pw_below_drewN | apply below_drew1 | refine below_set ?_ GE205.out | refine below_set ?_ GE215.out | refine below_set ?_ GE225.out | refine below_set ?_ GE235.out) | exact HB.out)⟩⟩
          ·rw [if_neg c102] at H
           have c102b0 : (t209 == 7) = false := beq_eq_false_iff_ne.mpr c102
           have c102b1 : (t209 != 7) = true := bne_iff_ne.mpr c102
           have H' := Aside0.mk H
           clear H
           have hnb141 := NB205_215.out
           have hnc141 := NB215_205.out
           have hnb142 := NB205_225.out
           have hnc142 := NB225_205.out
           have hnb143 := NB205_235.out
           have hnc143 := NB235_205.out
           have hcz144_0 : wc.cell? ⟨gb205, 0, none⟩ = some (.int .i64 t199) := (blk_cell BK205.out 0).trans rfl
           have hcz144_1 : wc.cell? ⟨gb205, 1, none⟩ = some (.int .i64 t200) := (blk_cell BK205.out 1).trans rfl
           have hcz144_2 : wc.cell? ⟨gb205, 2, none⟩ = some (.int .i64 t201) := (blk_cell BK205.out 2).trans rfl
           have hcz144_3 : wc.cell? ⟨gb205, 3, none⟩ = some (.string t202) := (blk_cell BK205.out 3).trans rfl
           have hcz144_4 : wc.cell? ⟨gb205, 4, none⟩ = some (.int .i64 t203) := (blk_cell BK205.out 4).trans rfl
           have hfz144_0 := blk_frozen BK205.out 0
           have hfz144_1 := blk_frozen BK205.out 1
           have hfz144_2 := blk_frozen BK205.out 2
           have hfz144_3 := blk_frozen BK205.out 3
           have hfz144_4 := blk_frozen BK205.out 4
           have hnb145 := NB215_225.out
           have hnc145 := NB225_215.out
           have hnb146 := NB215_235.out
           have hnc146 := NB235_215.out
           have hcz147_0 : wc.cell? ⟨gb215, 0, none⟩ = some (.int .i64 t209) := (blk_cell BK215.out 0).trans rfl
           have hcz147_1 : wc.cell? ⟨gb215, 1, none⟩ = some (.int .i64 t210) := (blk_cell BK215.out 1).trans rfl
           have hcz147_2 : wc.cell? ⟨gb215, 2, none⟩ = some (.int .i64 t211) := (blk_cell BK215.out 2).trans rfl
           have hcz147_3 : wc.cell? ⟨gb215, 3, none⟩ = some (.string t212) := (blk_cell BK215.out 3).trans rfl
           have hcz147_4 : wc.cell? ⟨gb215, 4, none⟩ = some (.int .i64 t213) := (blk_cell BK215.out 4).trans rfl
           have hfz147_0 := blk_frozen BK215.out 0
           have hfz147_1 := blk_frozen BK215.out 1
           have hfz147_2 := blk_frozen BK215.out 2
           have hfz147_3 := blk_frozen BK215.out 3
           have hfz147_4 := blk_frozen BK215.out 4
           go_wp2
           go_meet
           case rel => exact ⟨_, (false), (by first | rfl | (simp; done) | (simp [*]; done)), H', ⟨by have := HJ7.out; first | omega | exact Nat.le_refl _⟩, ⟨by (with_reducible repeat (first | refine blk_drewN ?_ _ | refine blk_drew ?_ | refine blk_alloc ?_ _)); exact BK205.out⟩, ⟨by (with_reducible repeat (first | refine blk_drewN ?_ _ | refine blk_drew ?_ | refine blk_alloc ?_ _)); exact BK215.out⟩, ⟨by (with_reducible repeat (first | refine blk_drewN ?_ _ | refine blk_drew ?_ | refine blk_alloc ?_ _)); exact BK225.out⟩, ⟨by (with_reducible repeat (first | refine blk_drewN ?_ _ | refine blk_drew ?_ | refine blk_alloc ?_ _)); exact BK235.out⟩, ⟨by repeat (first | (with_reducible first | exact HB.out | apply below_alloc | apply pw_below_drewN | apply below_drew1 | refine below_set ?_ GE205.out | refine below_set ?_ GE215.out | refine below_set ?_ GE225.out | refine below_set ?_ GE235.out) | exact HB.out)⟩⟩
         ·replace c101 := Bool.eq_false_iff.mpr c101
          subst c101
          have H1 : (tmesislaw06_TokenDots.j1 kj7 false) = some r := by rw [if_neg (show ¬ (false = true) by decide)] at H; exact H
          clear H
          have H := H1
          clear H1
          have H' := Aside0.mk H
          clear H
          have hnb148 := NB205_215.out
          have hnc148 := NB215_205.out
          have hnb149 := NB205_225.out
          have hnc149 := NB225_205.out
          have hnb150 := NB205_235.out
          have hnc150 := NB235_205.out
          have hcz151_0 : wc.cell? ⟨gb205, 0, none⟩ = some (.int .i64 t199) := (blk_cell BK205.out 0).trans rfl
          have hcz151_1 : wc.cell? ⟨gb205, 1, none⟩ = some (.int .i64 t200) := (blk_cell BK205.out 1).trans rfl
          have hcz151_2 : wc.cell? ⟨gb205, 2, none⟩ = some (.int .i64 t201) := (blk_cell BK205.out 2).trans rfl
          have hcz151_3 : wc.cell? ⟨gb205, 3, none⟩ = some (.string t202) := (blk_cell BK205.out 3).trans rfl
          have hcz151_4 : wc.cell? ⟨gb205, 4, none⟩ = some (.int .i64 t203) := (blk_cell BK205.out 4).trans rfl
          have hfz151_0 := blk_frozen BK205.out 0
          have hfz151_1 := blk_frozen BK205.out 1
          have hfz151_2 := blk_frozen BK205.out 2
          have hfz151_3 := blk_frozen BK205.out 3
          have hfz151_4 := blk_frozen BK205.out 4
          go_wp2
          go_meet
          case rel => exact ⟨_, (false), (by first | rfl | (simp; done) | (simp [*]; done)), H', ⟨by have := HJ7.out; first | omega | exact Nat.le_refl _⟩, ⟨by (with_reducible repeat (first | refine blk_drewN ?_ _ | refine blk_drew ?_ | refine blk_alloc ?_ _)); exact BK205.out⟩, ⟨by (with_reducible repeat (first | refine blk_drewN ?_ _ | refine blk_drew ?_ | refine blk_alloc ?_ _)); exact BK215.out⟩, ⟨by (with_reducible repeat (first | refine blk_drewN ?_ _ | refine blk_drew ?_ | refine blk_alloc ?_ _)); exact BK225.out⟩, ⟨by (with_reducible repeat (first | refine blk_drewN ?_ _ | refine blk_drew ?_ | refine blk_alloc ?_ _)); exact BK235.out⟩, ⟨by repeat (first | (with_reducible first | exact HB.out | apply below_alloc | apply pw_below_drewN | apply below_drew1 | refine below_set ?_ GE205.out | refine below_set ?_ GE215.out | refine below_set ?_ GE225.out | refine below_set ?_ GE235.out) | exact HB.out)⟩⟩
        ·rw [if_neg c100] at H
         have c100b0 : (t199 == 2) = false := beq_eq_false_iff_ne.mpr c100
         have c100b1 : (t199 != 2) = true := bne_iff_ne.mpr c100
         have H' := Aside0.mk H
         clear H
         have hnb152 := NB205_215.out
         have hnc152 := NB215_205.out
         have hnb153 := NB205_225.out
         have hnc153 := NB225_205.out
         have hnb154 := NB205_235.out
         have hnc154 := NB235_205.out
         have hcz155_0 : wc.cell? ⟨gb205, 0, none⟩ = some (.int .i64 t199) := (blk_cell BK205.out 0).trans rfl
         have hcz155_1 : wc.cell? ⟨gb205, 1, none⟩ = some (.int .i64 t200) := (blk_cell BK205.out 1).trans rfl
         have hcz155_2 : wc.cell? ⟨gb205, 2, none⟩ = some (.int .i64 t201) := (blk_cell BK205.out 2).trans rfl
         have hcz155_3 : wc.cell? ⟨gb205, 3, none⟩ = some (.string t202) := (blk_cell BK205.out 3).trans rfl
         have hcz155_4 : wc.cell? ⟨gb205, 4, none⟩ = some (.int .i64 t203) := (blk_cell BK205.out 4).trans rfl
         have hfz155_0 := blk_frozen BK205.out 0
         have hfz155_1 := blk_frozen BK205.out 1
         have hfz155_2 := blk_frozen BK205.out 2
         have hfz155_3 := blk_frozen BK205.out 3
         have hfz155_4 := blk_frozen BK205.out 4
         go_wp2
         go_meet
         case rel => exact ⟨_, (false), (by first | rfl | (simp; done) | (simp [*]; done)), H', ⟨by have := HJ7.out; first | omega | exact Nat.le_refl _⟩, ⟨by (with_reducible repeat (first | refine blk_drewN ?_ _ | refine blk_drew ?_ | refine blk_alloc ?_ _)); exact BK205.out⟩, ⟨by (with_reducible repeat (first | refine blk_drewN ?_ _ | refine blk_drew ?_ | refine blk_alloc ?_ _)); exact BK215.out⟩, ⟨by (with_reducible repeat (first | refine blk_drewN ?_ _ | refine blk_drew ?_ | refine blk_alloc ?_ _)); exact BK225.out⟩, ⟨by (with_reducible repeat (first | refine blk_drewN ?_ _ | refine blk_drew ?_ | refine blk_alloc ?_ _)); exact BK235.out⟩, ⟨by repeat (first | (with_reducible first | exact HB.out | apply below_alloc | apply pw_below_drewN | apply below_drew1 | refine below_set ?_ GE205.out | refine below_set ?_ GE215.out | refine below_set ?_ GE225.out | refine below_set ?_ GE235.out) | exact HB.out)⟩⟩
      ·rw [if_neg c47] at H
       have c47b0 : ((t199 == 7) == x14_7) = false := by simpa using c47
       (try (have c47b1 : decide ((t199 == 7) = x14_7) = false := by simpa using c47))
       (try (have c47b2 : ((t199 == 7) == x14_7) = false := by simpa using c47))
       (try (have c47b3 : ¬ ((t199 == 7) = x14_7) := by simpa using c47))
       clear c47
       (first | rw [c47b0] | (simp only [i64_w, i32_w]; rw [c47b0]) | skip)
       have H' := Aside0.mk H
       clear H
       have hnb156 := NB205_215.out
       have hnc156 := NB215_205.out
       have hnb157 := NB205_225.out
       have hnc157 := NB225_205.out
       have hnb158 := NB205_235.out
       have hnc158 := NB235_205.out
       have hcz159_0 : wc.cell? ⟨gb205, 0, none⟩ = some (.int .i64 t199) := (blk_cell BK205.out 0).trans rfl
       have hcz159_1 : wc.cell? ⟨gb205, 1, none⟩ = some (.int .i64 t200) := (blk_cell BK205.out 1).trans rfl
       have hcz159_2 : wc.cell? ⟨gb205, 2, none⟩ = some (.int .i64 t201) := (blk_cell BK205.out 2).trans rfl
       have hcz159_3 : wc.cell? ⟨gb205, 3, none⟩ = some (.string t202) := (blk_cell BK205.out 3).trans rfl
       have hcz159_4 : wc.cell? ⟨gb205, 4, none⟩ = some (.int .i64 t203) := (blk_cell BK205.out 4).trans rfl
       have hfz159_0 := blk_frozen BK205.out 0
       have hfz159_1 := blk_frozen BK205.out 1
       have hfz159_2 := blk_frozen BK205.out 2
       have hfz159_3 := blk_frozen BK205.out 3
       have hfz159_4 := blk_frozen BK205.out 4
       go_wp2
       go_meet
       case rel => exact ⟨_, (false), (by first | rfl | (simp; done) | (simp [*]; done)), H', ⟨by have := HJ7.out; first | omega | exact Nat.le_refl _⟩, ⟨by (with_reducible repeat (first | refine blk_drewN ?_ _ | refine blk_drew ?_ | refine blk_alloc ?_ _)); exact BK205.out⟩, ⟨by (with_reducible repeat (first | refine blk_drewN ?_ _ | refine blk_drew ?_ | refine blk_alloc ?_ _)); exact BK215.out⟩, ⟨by (with_reducible repeat (first | refine blk_drewN ?_ _ | refine blk_drew ?_ | refine blk_alloc ?_ _)); exact BK225.out⟩, ⟨by (with_reducible repeat (first | refine blk_drewN ?_ _ | refine blk_drew ?_ | refine blk_alloc ?_ _)); exact BK235.out⟩, ⟨by repeat (first | (with_reducible first | exact HB.out | apply below_alloc | apply pw_below_drewN | apply below_drew1 | refine below_set ?_ GE205.out | refine below_set ?_ GE215.out | refine below_set ?_ GE225.out | refine below_set ?_ GE235.out) | exact HB.out)⟩⟩
     ·replace c46 := Bool.eq_false_iff.mpr c46
      subst c46
      have H1 : (tmesislaw06_TokenDots.j1 kj7 false) = some r := by rw [if_neg (show ¬ (false = true) by decide)] at H; exact H
      clear H
      have H := H1
      clear H1
      have H' := Aside0.mk H
      clear H
      go_wp2
      go_meet
      case rel => exact ⟨_, (false), (by first | rfl | (simp; done) | (simp [*]; done)), H', ⟨by have := HJ7.out; first | omega | exact Nat.le_refl _⟩, ⟨by (with_reducible repeat (first | refine blk_drewN ?_ _ | refine blk_drew ?_ | refine blk_alloc ?_ _)); exact BK205.out⟩, ⟨by (with_reducible repeat (first | refine blk_drewN ?_ _ | refine blk_drew ?_ | refine blk_alloc ?_ _)); exact BK215.out⟩, ⟨by (with_reducible repeat (first | refine blk_drewN ?_ _ | refine blk_drew ?_ | refine blk_alloc ?_ _)); exact BK225.out⟩, ⟨by (with_reducible repeat (first | refine blk_drewN ?_ _ | refine blk_drew ?_ | refine blk_alloc ?_ _)); exact BK235.out⟩, ⟨by repeat (first | (with_reducible first | exact HB.out | apply below_alloc | apply pw_below_drewN | apply below_drew1 | refine below_set ?_ GE205.out | refine below_set ?_ GE215.out | refine below_set ?_ GE225.out | refine below_set ?_ GE235.out) | exact HB.out)⟩⟩
    ·replace c45 := Bool.eq_false_iff.mpr c45
     subst c45
     have H1 : (tmesislaw06_TokenDots.j1 kj7 false) = some r := by rw [if_neg (show ¬ (false = true) by decide)] at H; exact H
     clear H
     have H := H1
     clear H1
     have H' := Aside0.mk H
     clear H
     go_wp2
     go_meet
     case rel => exact ⟨_, (false), (by first | rfl | (simp; done) | (simp [*]; done)), H', ⟨by have := HJ7.out; first | omega | exact Nat.le_refl _⟩, ⟨by (with_reducible repeat (first | refine blk_drewN ?_ _ | refine blk_drew ?_ | refine blk_alloc ?_ _)); exact BK205.out⟩, ⟨by (with_reducible repeat (first | refine blk_drewN ?_ _ | refine blk_drew ?_ | refine blk_alloc ?_ _)); exact BK215.out⟩, ⟨by (with_reducible repeat (first | refine blk_drewN ?_ _ | refine blk_drew ?_ | refine blk_alloc ?_ _)); exact BK225.out⟩, ⟨by (with_reducible repeat (first | refine blk_drewN ?_ _ | refine blk_drew ?_ | refine blk_alloc ?_ _)); exact BK235.out⟩, ⟨by repeat (first | (with_reducible first | exact HB.out | apply below_alloc | apply pw_below_drewN | apply below_drew1 | refine below_set ?_ GE205.out | refine below_set ?_ GE215.out | refine below_set ?_ GE225.out | refine below_set ?_ GE235.out) | exact HB.out)⟩⟩
   case rest =>
    clear HC44
    try clear c1
    try clear p2
    try clear c4
    try clear c5
    try clear c6
    try clear c7
    try clear c8
    try clear c9
    try clear c10
    try clear c11
    try clear c12
    try clear c13
    try clear c14
    try clear c15
    try clear c45
    try clear c46
    try clear c47
    try clear c47b0
    try clear c47b1
    try clear c47b2
    try clear c48
    try clear c49
    try clear c50
    try clear c50b0
    try clear c50b1
    try clear c51
    try clear c52
    try clear c52b0
    try clear c52b1
    try clear c53
    try clear c64
    try clear c65
    try clear c66
    try clear c68
    try clear c69
    try clear c71
    try clear c73
    try clear c74
    try clear c75
    try clear c77
    try clear c78
    try clear c80
    try clear c82
    try clear c83
    try clear c84
    try clear c86
    try clear c87
    try clear c89
    try clear c90
    try clear c91
    try clear c93
    try clear c94
    try clear c96
    try clear c97
    try clear c98
    try clear c100
    try clear c100b0
    try clear c100b1
    try clear c101
    try clear c102
    try clear c102b0
    try clear c102b1
    try clear c103
    try clear c104
    try clear c104b0
    try clear c104b1
    try clear c105
    try clear c106
    try clear c107
    try clear c108
    try clear c110
    try clear c111
    try clear c113
    try clear c116
    try clear c117
    try clear c118
    try clear c120
    try clear c121
    try clear c123
    try clear c125
    try clear c126
    try clear c127
    try clear c129
    try clear c130
    try clear c132
    try clear c134
    try clear c135
    try clear c136
    try clear c138
    try clear c139
    try clear c141
    try clear c142
    try clear c143
    try clear c145
    try clear c146
    try clear c148
    try clear c149
    try clear c150
    try clear c152
    try clear c153
    try clear c154
    try clear c156
    try clear c157
    try clear c158
    try clear hcz109_0
    try clear hcz109_1
    try clear hcz109_2
    try clear hcz109_3
    try clear hcz109_4
    try clear hcz112_0
    try clear hcz112_1
    try clear hcz112_2
    try clear hcz112_3
    try clear hcz112_4
    try clear hcz114_0
    try clear hcz114_1
    try clear hcz114_2
    try clear hcz114_3
    try clear hcz114_4
    try clear hcz115_0
    try clear hcz115_1
    try clear hcz115_2
    try clear hcz115_3
    try clear hcz115_4
    try clear hcz119_0
    try clear hcz119_1
    try clear hcz119_2
    try clear hcz119_3
    try clear hcz119_4
    try clear hcz122_0
    try clear hcz122_1
    try clear hcz122_2
    try clear hcz122_3
    try clear hcz122_4
    try clear hcz124_0
    try clear hcz124_1
    try clear hcz124_2
    try clear hcz124_3
    try clear hcz124_4
    try clear hcz128_0
    try clear hcz128_1
    try clear hcz128_2
    try clear hcz128_3
    try clear hcz128_4
    try clear hcz131_0
    try clear hcz131_1
    try clear hcz131_2
    try clear hcz131_3
    try clear hcz131_4
    try clear hcz133_0
    try clear hcz133_1
    try clear hcz133_2
    try clear hcz133_3
    try clear hcz133_4
    try clear hcz137_0
    try clear hcz137_1
    try clear hcz137_2
    try clear hcz137_3
    try clear hcz137_4
    try clear hcz140_0
    try clear hcz140_1
    try clear hcz140_2
    try clear hcz140_3
    try clear hcz140_4
    try clear hcz144_0
    try clear hcz144_1
    try clear hcz144_2
    try clear hcz144_3
    try clear hcz144_4
    try clear hcz147_0
    try clear hcz147_1
    try clear hcz147_2
    try clear hcz147_3
    try clear hcz147_4
    try clear hcz151_0
    try clear hcz151_1
    try clear hcz151_2
    try clear hcz151_3
    try clear hcz151_4
    try clear hcz155_0
    try clear hcz155_1
    try clear hcz155_2
    try clear hcz155_3
    try clear hcz155_4
    try clear hcz159_0
    try clear hcz159_1
    try clear hcz159_2
    try clear hcz159_3
    try clear hcz159_4
    try clear hcz63_3
    try clear hcz63_4
    try clear hcz67_0
    try clear hcz67_1
    try clear hcz67_2
    try clear hcz67_3
    try clear hcz67_4
    try clear hcz70_0
    try clear hcz70_1
    try clear hcz70_2
    try clear hcz70_3
    try clear hcz70_4
    try clear hcz72_0
    try clear hcz72_1
    try clear hcz72_2
    try clear hcz72_3
    try clear hcz72_4
    try clear hcz76_0
    try clear hcz76_1
    try clear hcz76_2
    try clear hcz76_3
    try clear hcz76_4
    try clear hcz79_0
    try clear hcz79_1
    try clear hcz79_2
    try clear hcz79_3
    try clear hcz79_4
    try clear hcz81_0
    try clear hcz81_1
    try clear hcz81_2
    try clear hcz81_3
    try clear hcz81_4
    try clear hcz85_0
    try clear hcz85_1
    try clear hcz85_2
    try clear hcz85_3
    try clear hcz85_4
    try clear hcz88_0
    try clear hcz88_1
    try clear hcz88_2
    try clear hcz88_3
    try clear hcz88_4
    try clear hcz92_0
    try clear hcz92_1
    try clear hcz92_2
    try clear hcz92_3
    try clear hcz92_4
    try clear hcz95_0
    try clear hcz95_1
    try clear hcz95_2
    try clear hcz95_3
    try clear hcz95_4
    try clear hcz99_0
    try clear hcz99_1
    try clear hcz99_2
    try clear hcz99_3
    try clear hcz99_4
    try clear hfz109_0
    try clear hfz109_1
    try clear hfz109_2
    try clear hfz109_3
    try clear hfz109_4
    try clear hfz112_0
    try clear hfz112_1
    try clear hfz112_2
    try clear hfz112_3
    try clear hfz112_4
    try clear hfz114_0
    try clear hfz114_1
    try clear hfz114_2
    try clear hfz114_3
    try clear hfz114_4
    try clear hfz115_0
    try clear hfz115_1
    try clear hfz115_2
    try clear hfz115_3
    try clear hfz115_4
    try clear hfz119_0
    try clear hfz119_1
    try clear hfz119_2
    try clear hfz119_3
    try clear hfz119_4
    try clear hfz122_0
    try clear hfz122_1
    try clear hfz122_2
    try clear hfz122_3
    try clear hfz122_4
    try clear hfz124_0
    try clear hfz124_1
    try clear hfz124_2
    try clear hfz124_3
    try clear hfz124_4
    try clear hfz128_0
    try clear hfz128_1
    try clear hfz128_2
    try clear hfz128_3
    try clear hfz128_4
    try clear hfz131_0
    try clear hfz131_1
    try clear hfz131_2
    try clear hfz131_3
    try clear hfz131_4
    try clear hfz133_0
    try clear hfz133_1
    try clear hfz133_2
    try clear hfz133_3
    try clear hfz133_4
    try clear hfz137_0
    try clear hfz137_1
    try clear hfz137_2
    try clear hfz137_3
    try clear hfz137_4
    try clear hfz140_0
    try clear hfz140_1
    try clear hfz140_2
    try clear hfz140_3
    try clear hfz140_4
    try clear hfz144_0
    try clear hfz144_1
    try clear hfz144_2
    try clear hfz144_3
    try clear hfz144_4
    try clear hfz147_0
    try clear hfz147_1
    try clear hfz147_2
    try clear hfz147_3
    try clear hfz147_4
    try clear hfz151_0
    try clear hfz151_1
    try clear hfz151_2
    try clear hfz151_3
    try clear hfz151_4
    try clear hfz155_0
    try clear hfz155_1
    try clear hfz155_2
    try clear hfz155_3
    try clear hfz155_4
    try clear hfz159_0
    try clear hfz159_1
    try clear hfz159_2
    try clear hfz159_3
    try clear hfz159_4
    try clear hfz63_0
    try clear hfz63_1
    try clear hfz63_2
    try clear hfz63_3
    try clear hfz63_4
    try clear hfz67_0
    try clear hfz67_1
    try clear hfz67_2
    try clear hfz67_3
    try clear hfz67_4
    try clear hfz70_0
    try clear hfz70_1
    try clear hfz70_2
    try clear hfz70_3
    try clear hfz70_4
    try clear hfz72_0
    try clear hfz72_1
    try clear hfz72_2
    try clear hfz72_3
    try clear hfz72_4
    try clear hfz76_0
    try clear hfz76_1
    try clear hfz76_2
    try clear hfz76_3
    try clear hfz76_4
    try clear hfz79_0
    try clear hfz79_1
    try clear hfz79_2
    try clear hfz79_3
    try clear hfz79_4
    try clear hfz81_0
    try clear hfz81_1
    try clear hfz81_2
    try clear hfz81_3
    try clear hfz81_4
    try clear hfz85_0
    try clear hfz85_1
    try clear hfz85_2
    try clear hfz85_3
    try clear hfz85_4
    try clear hfz88_0
    try clear hfz88_1
    try clear hfz88_2
    try clear hfz88_3
    try clear hfz88_4
    try clear hfz92_0
    try clear hfz92_1
    try clear hfz92_2
    try clear hfz92_3
    try clear hfz92_4
    try clear hfz95_0
    try clear hfz95_1
    try clear hfz95_2
    try clear hfz95_3
    try clear hfz95_4
    try clear hfz99_0
    try clear hfz99_1
    try clear hfz99_2
    try clear hfz99_3
    try clear hfz99_4
    obtain ⟨kq, x4_43, rfl, HA, HJ43, BK205, BK215, BK225, BK235, HB⟩ := hcut
    cases kq with
    | zero => exact absurd HA.out (by simp [tmesislaw06_TokenDots.j1])
    | succ kj43 =>
     have H := HA.out
     clear HA
     simp only [tmesislaw06_TokenDots.j1] at H
     obtain rfl := Option.some.inj H
     go_wp2
     go_ret
     exact ⟨by first | rfl | (simp [errW_none, errW_some] <;> rfl) | (simp [*, errW_none, errW_some] <;> rfl), by repeat (first | (with_reducible first | exact HB.out | apply below_alloc | apply pw_below_drewN | apply below_drew1 | refine below_set ?_ GE205.out | refine below_set ?_ GE215.out | refine below_set ?_ GE225.out | refine below_set ?_ GE235.out) | exact HB.out)⟩
/-- THE ONE PURE STATEMENT of tmesislaw06_TokenDots: yours. -/
def tmesislaw06_TokenDots.Pure : Prop := ∀ (a0 : Int) (a1 : Int), (Lit.int .u8 a0).wf = true → (Lit.int .u8 a1).wf = true → ∃ k, tmesislaw06_TokenDots.f k a0 a1 = some true
theorem tmesislaw06_TokenDots.walk (P : tmesislaw06_TokenDots.Pure) (a0 : Int) (a1 : Int) (w : World) (hG : Gl w) (w0 : (Lit.int .u8 a0).wf = true) (w1 : (Lit.int .u8 a1).wf = true) :
  Calls Tryd.prog 8 #[.int .u8 a0, .int .u8 a1] w fun e w' => e = .returned (.bool true) ∧ Below w.heap.size w w' := by
 obtain ⟨k, h⟩ := P a0 a1 w0 w1
 refine (tmesislaw06_TokenDots.calls k a0 a1 true w hG h).mono ?_
 rintro e w' ⟨rfl, hd⟩
 exact ⟨rfl, hd⟩
end Go.Proofs.YtflekegjmjjdmaaDoor.P
