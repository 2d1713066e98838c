/- Part of the proof: what the theorem needs of this text. -/
import Derived.Test.YtdejidhgeefmeaaDoorKHG
import Derived.Test.YtdejidhgeefmeaaDoorKHRI
import Derived.Deep.RegionLaw
import Derived.IntWalk
namespace Go.Proofs.YtdejidhgeefmeaaDoor.P
set_option linter.unusedSimpArgs false
set_option linter.unusedVariables false
open Go.RowKit Go.Proofs.YtdejidhgeefmeaaDoorW.PrintWords Go.Proofs.YtdejidhgeefmeaaDoorW.PrintLast Go.Proofs.YtdejidhgeefmeaaDoorW.PrintMore
/-- a row of the call's own, laid open -/
theorem own_open {e base : Nat} {w : World} {ok : Nat → Prop} {v : Value} {xs : List Int} (h : Kd.R (Kd.int .u8) e w base ok v xs) (h0 : 0 < xs.length) :
  ∃ g cap C, v = .slice (some ⟨g, 0, none⟩) xs.length cap ∧ base ≤ g ∧ w.heap[g]? = some (.cells (C : List Value).toArray e (0, 0)) ∧ xs.length ≤ cap ∧ cap ≤ maxLen ∧ C.length = cap ∧ C.take xs.length = xs.map (Value.int .u8) := by
 rcases (Kd.own_of_R h).2 with ⟨_, h1⟩ | ⟨g, cap, cur, h1, h2, h3, h4, h5, h6, h7⟩
 ·omega
 ·exact ⟨g, cap, cur.toList, h1, h2, by rw [h3], h4, h5, by simpa using h6, by simpa [encs] using h7⟩
theorem own_shut {e base : Nat} {w : World} {ok : Nat → Prop} {xs : List Int} {g cap : Nat} {C : List Value} (hb : base ≤ g) (hh : w.heap[g]? = some (.cells C.toArray e (0, 0))) (hc : xs.length ≤ cap) (hm : cap ≤ maxLen) (hl : C.length = cap) (ht : C.take xs.length = xs.map (Value.int .u8)) (hok : ok g) :
  Kd.R (Kd.int .u8) e w base ok (.slice (some ⟨g, 0, none⟩) xs.length cap) xs :=
 Kd.R_of_own ⟨by simp [encs], .inr ⟨g, cap, C.toArray, rfl, hb, hh, hc, hm, by simpa using hl, by simpa [encs] using ht⟩⟩ (fun k hk => by
  have : g = k := by simpa [Value.ownBlock] using hk
  subst this; exact hok)
/-- a cut of a row of the call's own, and of a row that is read: the runs -/
theorem cut_own {P : Program} (t e : TypeId) (kl : IntKind) {i : TypeInfo} (ht : P.underlying t = some (.slice e)) (hi : P.info? e = some i) (hsz : i.size = 1) (g n c m : Nat) (hm : m ≤ n) :
  ∃ A' : Option Addr, (∀ W : World, (Instr.slice t (.slice (some ⟨g, 0, none⟩) n c) (some (.int kl (m : Int))) none none).run P W = .ok (.slice A' (n - m) (c - m)) W) ∧ (m < c → A' = some ⟨g, m, none⟩) := by
 refine ⟨if c = m then some ⟨g, 0, none⟩ else some ((⟨g, 0, none⟩ : Addr).add m), fun W => ?_, fun h => ?_⟩
 ·have hel : P.elem t = e := by simp [Program.elem, ht]
  have hu : P.underlying t = some (.slice (P.elem t)) := by rw [hel]; exact ht
  rw [run_slice_l W t (some ⟨g, 0, none⟩) n c hu kl (m : Int) (Int.natCast_nonneg _) (by omega), hel]
  simp [sizeOf, typeInfo, hi, hsz, sliced, Result.andThen]
 ·rw [if_neg (by omega)]
  unfold Addr.add
  by_cases h0 : m = 0
  ·subst h0; rfl
  ·simp [h0]
theorem cut_read {P : Program} (t e : TypeId) {i : TypeInfo} (ht : P.underlying t = some (.slice e)) (hi : P.info? e = some i) (hsz : i.size = 1) (A : Option Addr) (c m : Nat) (xs : List Int) (hm : m ≤ xs.length) (hc : xs.length ≤ c) :
  ∃ A' : Option Addr, (∀ W : World, (Instr.slice t (.slice A xs.length c) (some (.int .i64 (m : Int))) none none).run P W = .ok (.slice A' (xs.length - m) (c - m)) W) ∧ ∀ w, Kd.C (Kd.int .u8) w A xs.length xs → Kd.C (Kd.int .u8) w A' (xs.length - m) (xs.drop m) := by
 obtain ⟨A', h1, h2, _⟩ := print_drop_of (P := P) (Value.int .u8) (0 : Int) t e .i64 ht hi hsz A c xs (m : Int) (Int.natCast_nonneg _) (by omega) hc
 rw [Int.toNat_natCast, List.length_drop] at h1 h2
 exact ⟨A', h1, fun w h => Kd.C_of_reads (h1 := fun _ => rfl) (h2 w (Kd.reads_of_C h))⟩
theorem cut_mid {P : Program} (t e : TypeId) {i : TypeInfo} (ht : P.underlying t = some (.slice e)) (hi : P.info? e = some i) (hsz : i.size = 1) (A : Option Addr) (c m k : Nat) (xs : List Int) (hm : m + k ≤ xs.length) (hc : xs.length ≤ c) :
  ∃ A' : Option Addr, (∀ W : World, (Instr.slice t (.slice A xs.length c) (some (.int .i64 (m : Int))) (some (.int .i64 ((m + k : Nat) : Int))) none).run P W = .ok (.slice A' k (c - m)) W) ∧ ∀ w, Kd.C (Kd.int .u8) w A xs.length xs → Kd.C (Kd.int .u8) w A' k ((xs.drop m).take k) := by
 obtain ⟨A', h1, h2, _⟩ := print_mid_of (P := P) (Value.int .u8) (0 : Int) t e .i64 .i64 ht hi hsz A c xs (m : Int) ((m + k : Nat) : Int) (Int.natCast_nonneg _) (by omega) (by omega) hc
 have e1 : (xs.take (((m + k : Nat) : Int)).toNat).drop ((m : Int)).toNat = (xs.drop m).take k := by
  rw [Int.toNat_natCast, Int.toNat_natCast, List.drop_take, Nat.add_sub_cancel_left]
 have e2 : ((xs.drop m).take k).length = k := by rw [List.length_take, List.length_drop]; omega
 rw [e1, e2] at h1 h2
 rw [Int.toNat_natCast] at h1
 exact ⟨A', h1, fun w h => Kd.C_of_reads (h1 := fun _ => rfl) (h2 w (Kd.reads_of_C h))⟩
/-- what is copied -/
theorem src_cells {w : World} {A : Option Addr} {n : Nat} {xs : List Int} (h : Kd.C (Kd.int .u8) w A n xs) (h0 : 0 < n) : ∃ ad, A = some ad ∧ ∀ j v, (xs.map (Value.int .u8))[j]? = some v → w.cell? (ad.add j) = some v := by
 obtain ⟨ad, e, _⟩ := Kd.at_int h 0 (by omega) (by omega)
 refine ⟨ad, e, fun j v hj => ?_⟩
 rw [List.getElem?_map] at hj
 obtain ⟨x, hx, hv⟩ := Option.map_eq_some_iff.1 hj
 have hlt := (List.getElem?_eq_some_iff.1 hx).1
 have hn := h.1
 obtain ⟨ad', e', hc⟩ := Kd.at_int h (j : Int) (by omega) (by omega)
 rw [e] at e'
 injection e' with e'
 subst e'
 have e2 : rd xs (j : Int) = x := by
  show xs.getD j 0 = x
  rw [List.getD_eq_getElem?_getD, hx]; rfl
 rw [e2] at hc
 rw [← hv]
 exact hc
theorem take_splice (C X : List Value) (n : Nat) (h : n + X.length ≤ C.length) : (splice C n X).take (n + X.length) = C.take n ++ X := by
 unfold splice
 rw [← List.append_assoc, List.take_append_of_le_length (by simp; omega), List.take_of_length_le (by simp; omega)]
/-- one step of the replacing -/
theorem repS_step {x : Int} (new : List Int) {l : List Int} {st k : Nat} (hk : k < (l.drop st).length) (h1 : (l.drop st).drop k = x :: (l.drop st).drop (k + 1)) (h2 : x ∉ (l.drop st).take k) :
  repS x new (l.take (st + k + 1)) = repS x new (l.take st) ++ (l.drop st).take k ++ new ∧ (l.drop st).count x = (l.drop (st + k + 1)).count x + 1 := by
 have e1 : l.take (st + k + 1) = l.take st ++ ((l.drop st).take k ++ [x]) := by
  rw [Nat.add_assoc, List.take_add]
  congr 1
  have hg : (l.drop st)[k]? = some x := by rw [← List.head?_drop, h1]; rfl
  rw [List.take_add_one, hg]; rfl
 refine ⟨?_, ?_⟩
 ·rw [e1, repS_append, repS_append, repS_none new h2, List.append_assoc]
  congr 2
  simp [repS]
 ·conv => lhs; rw [← List.take_append_drop k (l.drop st), h1]
  rw [List.count_append, List.count_cons, if_pos (by simp), List.count_eq_zero.2 h2, List.drop_drop]
  rw [show st + (k + 1) = st + k + 1 by omega]
  omega
theorem ones_u8 (xs : List Int) : ∀ v ∈ xs.map (Value.int .u8), v.oneCell' = true := by
 intro v hv
 obtain ⟨x, _, rfl⟩ := List.mem_map.1 hv
 rfl
theorem i64_wrap_eq (a : Int) : IntKind.i64.wrap a = wrap64 a := IntWalk.i64_left a
theorem room_lt {a k b T cap : Nat} (h : 0 < k) (h1 : b = a + k) (h2 : b ≤ T) (h3 : T ≤ cap) : a < cap := by omega
/-- the numbers of a round -/
theorem round_facts {x : Int} {new l : List Int} {st W0 T i m : Nat} (hx : 0 ≤ x ∧ x < 256) (hu : u8s l = true) (hl : l.length ≤ 1000000) (hn : 1 ≤ new.length) (hT : T ≤ 1001000000) (htot : (repS x new l).length = T)
  (hct : (l.drop st).count x + i = m) (hs : st ≤ l.length) (hW : W0 = (repS x new (l.take st)).length) (hlt : i < m) :
  ∃ k j W1 W2 s2 : Nat, ∃ X1 X2 : List Value, Lib.indexByte (Lib.bytesOf (l.drop st)) x.toNat.toUInt8 = (k : Int) ∧ j = st + k ∧ W1 = W0 + k ∧ W2 = W1 + new.length ∧ s2 = j + 1 ∧ s2 ≤ l.length ∧ W2 ≤ T ∧
   X1 = ((l.drop st).take k).map (Value.int .u8) ∧ X2 = new.map (Value.int .u8) ∧ X1.length = k ∧ X2.length = new.length ∧ (l.drop s2).count x + (i + 1) = m ∧ W2 = (repS x new (l.take s2)).length ∧
   (repS x new (l.take s2)).map (Value.int .u8) = (repS x new (l.take st)).map (Value.int .u8) ++ X1 ++ X2 ∧
   wrap64 ((st : Int) + (k : Int)) = (j : Int) ∧ wrap64 ((W0 : Int) + (X1.length : Int)) = (W1 : Int) ∧ wrap64 ((W1 : Int) + (X2.length : Int)) = (W2 : Int) ∧ wrap64 ((j : Int) + 1) = (s2 : Int) := by
 obtain ⟨k, hk0, hk1, hk2, hk3⟩ := find_u8 (l := l.drop st) hx (u8s_drop hu st) (by omega)
 obtain ⟨hrep, hcount⟩ := repS_step new hk1 hk2 hk3
 rw [List.length_drop] at hk1
 have hl2 : (repS x new (l.take (st + k + 1))).length = W0 + k + new.length := by
  rw [hrep, List.length_append, List.length_append, ← hW, List.length_take, List.length_drop]; omega
 have hlen : W0 + k + new.length ≤ T := by
  have e := htot
  rw [← List.take_append_drop (st + k + 1) l, repS_append, List.length_append, hl2] at e
  omega
 have e1 : (((l.drop st).take k).map (Value.int .u8)).length = k := by rw [List.length_map, List.length_take, List.length_drop]; omega
 have e2 : (new.map (Value.int .u8)).length = new.length := List.length_map ..
 refine ⟨k, st + k, W0 + k, W0 + k + new.length, st + k + 1, _, _, hk0, rfl, rfl, rfl, rfl, by omega, hlen, rfl, rfl, e1, e2, by omega, hl2.symm, by rw [hrep]; simp, ?_, ?_, ?_, ?_⟩
 ·unfold wrap64; omega
 ·rw [e1]; unfold wrap64; omega
 ·rw [e2]; unfold wrap64; omega
 ·unfold wrap64; omega
theorem two_splices {C X1 X2 a b : List Value} {W0 W1 W2 k n : Nat} (h1 : W1 = W0 + k) (hk : X1.length = k) (h2 : W2 = W1 + n) (hn : X2.length = n) (f1 : W0 + X1.length ≤ C.length) (f2 : W1 + X2.length ≤ (splice C W0 X1).length) (ha : C.take W0 = a) (hb : b = a ++ X1 ++ X2) :
  (splice (splice C W0 X1) W1 X2).take W2 = b := by
 subst hk; subst hn
 rw [h2, take_splice _ _ _ f2, h1, take_splice _ _ _ f1, ha, hb]
theorem wrap_succ {i m n : Nat} (h : i < m) (hm : m ≤ n) (hn : n ≤ 1000000) : wrap64 ((i : Int) + 1) = ((i + 1 : Nat) : Int) := by unfold wrap64; omega
theorem meas_lt {i m : Nat} (h : i < m) : m - (RowKit.intOf (Value.int .i64 ((i + 1 : Nat) : Int))).toNat < m - (RowKit.intOf (Value.int .i64 (i : Int))).toNat := by
 show m - (((i + 1 : Nat) : Int)).toNat < m - ((i : Nat) : Int).toNat
 omega
/-- behind the last one -/
theorem end_facts {x : Int} {new l : List Int} {st W0 T i m cap : Nat} (htot : (repS x new l).length = T) (hT : T ≤ 1001000000) (hc : T ≤ cap) (him : i ≤ m) (hct : (l.drop st).count x + i = m) (hs : st ≤ l.length) (hW : W0 = (repS x new (l.take st)).length) (hlt : ¬ i < m) :
  ∃ X : List Value, X = (l.drop st).map (Value.int .u8) ∧ X.length = l.length - st ∧ X.length = Nat.min (l.length - st) (T - W0) ∧ W0 ≤ T ∧ W0 + X.length = T ∧ wrap64 ((W0 : Int) + (X.length : Int)) = (T : Int) ∧ repS x new l = repS x new (l.take st) ++ l.drop st ∧ (0 < X.length → W0 < cap) ∧ (T : Int) ≤ (cap : Int) := by
 have h0 : (l.drop st).count x = 0 := by omega
 have e : repS x new l = repS x new (l.take st) ++ l.drop st := by
  conv => lhs; rw [← List.take_append_drop st l]
  rw [repS_append, repS_none new (a := l.drop st) (fun h => by have := List.count_pos_iff.2 h; omega)]
 have hx : ((l.drop st).map (Value.int .u8)).length = l.length - st := by rw [List.length_map, List.length_drop]
 have hl : W0 + (l.length - st) = T := by
  rw [← htot, e, List.length_append, ← hW, List.length_drop]
 refine ⟨_, rfl, hx, ?_, by omega, by rw [hx]; exact hl, ?_, e, fun h => ?_, by omega⟩
 ·rw [hx]
  have : T - W0 = l.length - st := by omega
  rw [this]
  exact (Nat.min_self _).symm
 ·rw [hx]; unfold wrap64; omega
 ·rw [hx] at h; omega
set_option maxHeartbeats 4000000 in
set_option maxRecDepth 100000 in
theorem bytes_Replace_all (A0 : Option Addr) (c0 : Nat) (l : List Int) (A1 : Option Addr) (c1 : Nat) (x : Int) (A2 : Option Addr) (c2 : Nat) (new : List Int) (w : World)
  (hr0 : Kd.C (Kd.int .u8) w A0 l.length l) (hc0 : l.length ≤ c0) (hr1 : Kd.C (Kd.int .u8) w A1 1 [x]) (hr2 : Kd.C (Kd.int .u8) w A2 new.length new) (hc1 : 1 ≤ c1) (hc2 : new.length ≤ c2)
  (hl : l.length ≤ 1000000) (hn : 1 ≤ new.length) (hn2 : new.length ≤ 1000) (hx : 0 ≤ x ∧ x < 256) (hu : u8s l = true) :
  Calls Tryd.prog 54 #[.slice A0 l.length c0, .slice A1 1 c1, .slice A2 new.length c2, .int .i64 (-1)] w fun e w' => ∃ v0_ : Value, e = .returned (v0_) ∧ Kd.R (Kd.int .u8) 5 w' w.heap.size (fun _ => True) v0_ (repS x new l) ∧ Below w.heap.size w w' := by
 have hcnt := bytes_Count.calls A0 c0 l A1 c1 [x] _ w hr0 hc0 hr1 hc1 (by unfold bytes_Count.f; rw [if_pos (by simp)])
 have hrd : rd [x] 0 = x := rfl
 rw [hrd, count_u8 hx hu] at hcnt
 have HCNT := Aside0.mk hcnt
 have HR0 := Aside0.mk hr0
 have HR1 := Aside0.mk hr1
 have HR2 := Aside0.mk hr2
 have HU := Aside0.mk hu
 have HX := Aside0.mk hx
 clear hcnt hr0 hr1 hr2 hu hx hrd
 have hcl : l.count x ≤ l.length := List.count_le_length
 by_cases h0 : l.count x = 0
 ·have HREP := Aside0.mk (repS_none (c := x) new (a := l) (fun h => by have := List.count_pos_iff.2 h; omega))
  generalize hm : l.count x = m at *
  subst h0
  clear hm hcl
  go_enter Tryd.func54, Tryd.ntmps54
  go_wp2_with (first | (go_at_call 66; refine HCNT.out.mono ?_; rintro e w' ⟨rfl, ⟨⟨n, rfl⟩⟩⟩) | ((with_reducible refine gate_builtin (b := .append) (xs := #[.const (.slice none 0 0), .tmp 24]) rfl ?_); at_builtin; refine Kd.R_append_rows (Kd.int .u8) (w0 := w) w.heap.size rfl (.const (.slice none 0 0)) (.tmp 24) 22 5 (.int .u8 0) 1 rfl Tryd.underlying22 infoU8 rfl (by decide) (by omega) (.slice none 0 0) [] l A0 _ _ (fun _ => True) (fun _ => False) rfl rfl ?aO ?aR (fun _ _ h => h) (fun _ h => h.elim) ?aF ?aB ?aS ?aL ?_; (case aO => exact Kd.R_nil _ _ _ _ _); (case aR => exact Kd.C_below HR0.out (pw_below_drewN (Below.refl _ _) _)); (case aF => exact fun _ _ => trivial); (case aB => exact pw_below_drewN (Below.refl _ _) _); (case aS => exact Nat.le_refl _); (case aL => simp; omega); intro v1 w1 ho hb hg hat; have HO := Aside0.mk ho; have HB := Aside0.mk hb; clear ho hb hg hat))
  go_ret
  refine ⟨_, rfl, ?_, HB.out⟩
  have := HO.out
  rw [HREP.out]
  exact this
 ·have hpos : 0 < l.count x := by omega
  have HCL := Aside0.mk hcl
  have HPOS := Aside0.mk hpos
  clear hpos
  obtain ⟨m, hm⟩ : ∃ m, m = l.count x := ⟨_, rfl⟩
  rw [← hm] at HCNT h0 hcl
  have HM := Aside0.mk hm
  clear hm
  obtain ⟨p, hp⟩ : ∃ p, new.length = p + 1 := ⟨new.length - 1, by omega⟩
  have HP := Aside0.mk hp
  have HMP := Aside0.mk (show m * p ≤ 1000000 * 1000 from Nat.mul_le_mul (by omega) (by omega))
  obtain ⟨T, hT⟩ : ∃ T, T = l.length + m * p := ⟨_, rfl⟩
  have HTB := Aside0.mk (show T * 1 ≤ 281474976710656 from by have := HMP.out; omega)
  have HTM := Aside0.mk (show T ≤ 1001000000 from by have := HMP.out; omega)
  have HW := Aside0.mk (show wrap64 ((l.length : Int) + wrap64 ((m : Int) * ((new.length : Int) - 1))) = (T : Int) from by
   have e1 : (new.length : Int) - 1 = (p : Int) := by omega
   have e2 : wrap64 ((m : Int) * (p : Int)) = ((m * p : Nat) : Int) := by
    rw [← Int.natCast_mul]
    have := HMP.out
    generalize m * p = z at this
    unfold wrap64
    omega
   have e3 : wrap64 ((l.length : Int) + ((m * p : Nat) : Int)) = ((l.length + m * p : Nat) : Int) := by
    have := HMP.out
    generalize m * p = z at this
    unfold wrap64
    omega
   rw [e1, e2, e3, ← hT])
  have HT := Aside0.mk hT
  clear hT
  have hneg : ((m : Int) == 0) = false := by simpa using h0
  clear hp
  go_enter Tryd.func54, Tryd.ntmps54
  go_wp2_with (first | (go_at_call 66; refine HCNT.out.mono ?_; rintro e w' ⟨rfl, ⟨⟨n, rfl⟩⟩⟩) | ((with_reducible refine gate_dst (N := 44) rfl ?_); refine Kd.R_make (Kd.int .u8) w.heap.size 5 rfl (N := 44) rfl 22 _ _ rfl _ rfl rfl Tryd.underlying22 (.int .u8 0) 1 infoU8 rfl (by decide) (by omega) (0 : Int) (ok := fun _ => True) (okp := fun _ => True) rfl (fun _ hk => hk) trivial (by rw [HW.out]; exact Int.natCast_nonneg _) (by rw [HW.out, Int.toNat_natCast]; exact HTB.out) (pw_below_drewN (Below.refl _ _) _) (Nat.le_refl _) ?_; intro v1 w1 ho hb hg hnew; rw [HW.out, Int.toNat_natCast] at ho; have HO := Aside0.mk ho; have HB := Aside0.mk hb; clear ho hb hg hnew))
  obtain ⟨i0, hi0, hzz⟩ := Option.map_eq_some_iff.1 infoU8
  have HI := Aside0.mk hi0
  have HZ := Aside0.mk (show i0.size = 1 by simp only [Prod.mk.injEq] at hzz; exact hzz.2.1)
  clear hi0 hzz
  have hT0 : 0 < T := by have := HT.out; have := HPOS.out; have := HCL.out; omega
  obtain ⟨g, cap, C0, rfl, hgb, hgh, hgc, hgm, hgl, hgt⟩ := own_open HO.out (by rw [List.length_replicate]; exact hT0)
  rw [List.length_replicate] at hgc hgt ⊢
  have HGB := Aside0.mk hgb
  have HGH := Aside0.mk hgh
  have HGC := Aside0.mk hgc
  have HGM := Aside0.mk hgm
  have HGL := Aside0.mk hgl
  clear hgb hgh hgm hgl hgt HO hgc
  have HTOT := Aside0.mk (show (repS x new l).length = T from by rw [repS_len x new l hn, HT.out, ← HM.out]; congr 2; have := HP.out; omega)
  go_loopw [11, 12, 49] (fun vw vs vi w' => ∃ (W0 st i : Nat) (C : List Value), vw = .int .i64 (W0 : Int) ∧ vs = .int .i64 (st : Int) ∧ vi = .int .i64 (i : Int) ∧ Aside0 (i ≤ m) ∧ Aside0 (st ≤ l.length) ∧ Aside0 ((l.drop st).count x + i = m) ∧ Aside0 (W0 = (repS x new (l.take st)).length) ∧ Aside0 (C.length = cap) ∧ Aside0 (C.take W0 = (repS x new (l.take st)).map (Value.int .u8)) ∧ Aside0 (w'.heap[g]? = some (.cells C.toArray 5 (0, 0))) ∧ Aside0 (Below w.heap.size w w')) (fun _ _ i _ => m - (intOf i).toNat)
  case atStart => exact ⟨0, 0, 0, C0, rfl, rfl, rfl, ⟨Nat.zero_le _⟩, ⟨Nat.zero_le _⟩, ⟨by rw [List.drop_zero, ← HM.out]; rfl⟩, ⟨rfl⟩, HGL, ⟨rfl⟩, HGH, HB⟩
  case round =>
   obtain ⟨W0, st, i, C, rfl, rfl, rfl, HIM, HST, HCT, HW0, HCL1, HCT1, HC, HB1⟩ := hrel
   clear HGH HGL HB HCNT
   by_cases hlt : i < m
   ·have hs : st ≤ l.length := HST.out
    obtain ⟨k, j, W1, W2, s2, X1, X2, hk0, hj, hW1, hW2, hs2, hs2l, hW2T, hX1, hX2, hX1l, hX2l, hct2, hW22, hrep2, hw1, hw2, hw3, hw4⟩ := round_facts HX.out HU.out hl hn HTM.out HTOT.out HCT.out hs HW0.out hlt
    have Hk0 := Aside0.mk hk0
    have Hj := Aside0.mk hj
    have HW1 := Aside0.mk hW1
    have HW2 := Aside0.mk hW2
    have Hs2 := Aside0.mk hs2
    have Hs2l := Aside0.mk hs2l
    have HW2T := Aside0.mk hW2T
    have HX1 := Aside0.mk hX1
    have HX2 := Aside0.mk hX2
    have HX1l := Aside0.mk hX1l
    have HX2l := Aside0.mk hX2l
    have HCT2 := Aside0.mk hct2
    have HW22 := Aside0.mk hW22
    have HREP2 := Aside0.mk hrep2
    have hjl : j ≤ l.length := by rw [hs2] at hs2l; exact Nat.le_of_succ_le hs2l
    have hjk : st ≤ j := by rw [hj]; exact Nat.le_add_right _ _
    have hW1T : W1 ≤ T := Nat.le_trans (by rw [hW2]; exact Nat.le_add_right _ _) hW2T
    have hW0T : W0 ≤ T := Nat.le_trans (by rw [hW1]; exact Nat.le_add_right _ _) hW1T
    clear hk0 hj hW1 hW2 hs2 hs2l hW2T hX1 hX2 hX1l hX2l hct2 hW22 hrep2
    obtain ⟨B1, hB1, hB1c⟩ := cut_read (P := Tryd.prog) 22 5 Tryd.underlying22 HI.out HZ.out A0 c0 st l hs hc0
    obtain ⟨B2, hB2, hB2c⟩ := cut_mid (P := Tryd.prog) 22 5 Tryd.underlying22 HI.out HZ.out A0 c0 st k l (by rw [← Hj.out]; exact hjl) hc0
    obtain ⟨D1, hD1, hD1c⟩ := cut_own (P := Tryd.prog) 22 5 .i64 Tryd.underlying22 HI.out HZ.out g T cap W0 hW0T
    obtain ⟨D2, hD2, hD2c⟩ := cut_own (P := Tryd.prog) 22 5 .i64 Tryd.underlying22 HI.out HZ.out g T cap W1 hW1T
    rw [← Hj.out] at hB2
    have HB1c := Aside0.mk (fun w => hB1c w)
    have HB2c := Aside0.mk (fun w => hB2c w)
    have HD1c := Aside0.mk hD1c
    have HD2c := Aside0.mk hD2c
    have hidx : Calls Tryd.prog 67 #[.slice B1 (l.length - st) (c0 - st), .slice A1 1 c1] wr fun e w'' => e = .returned (.int .i64 (k : Int)) ∧ Drawn0 wr w'' := by
     have h := bytes_Index_one B1 (c0 - st) (l.drop st) A1 c1 x wr (by rw [List.length_drop]; exact HB1c.out wr (Kd.C_below HR0.out HB1.out)) (by rw [List.length_drop]; exact Nat.sub_le_sub_right hc0 _) (Kd.C_below HR1.out HB1.out)
     rw [Hk0.out, List.length_drop] at h
     exact h
    have HIDX := Aside0.mk hidx
    clear hidx hB1c hB2c hD1c hD2c
    go_wp2_with (go_at_call 67; refine HIDX.out.mono ?_; rintro e w2 ⟨rfl, ⟨⟨n2, rfl⟩⟩⟩)
    rw [hw1]
    obtain ⟨wa, hwa⟩ : ∃ wa, wa = wr.drewN n2 := ⟨_, rfl⟩
    rw [← hwa]
    have HCa := Aside0.mk (show wa.heap[g]? = some (.cells C.toArray 5 (0, 0)) from by rw [hwa]; exact HC.out)
    have HBa := Aside0.mk (show Below w.heap.size w wa from by rw [hwa]; exact pw_below_drewN HB1.out _)
    have HLT := Aside0.mk hlt
    have HW5 := Aside0.mk (wrap_succ hlt hcl hl)
    clear hwa hlt
    have hsj : (st : Int) ≤ (j : Int) := Int.ofNat_le.2 hjk
    have hjl' : (j : Int) ≤ (l.length : Int) := Int.ofNat_le.2 hjl
    have HN1 := Aside0.mk (show X1.length = Nat.min k (T - W0) from by rw [HX1l.out]; exact (Nat.min_eq_left (Nat.le_sub_of_add_le (by rw [Nat.add_comm, ← HW1.out]; exact hW1T))).symm)
    have HN2 := Aside0.mk (show X2.length = Nat.min new.length (T - W1) from by rw [HX2l.out]; exact (Nat.min_eq_left (Nat.le_sub_of_add_le (by rw [Nat.add_comm, ← HW2.out]; exact HW2T.out))).symm)
    have HF1 := Aside0.mk (show W0 + X1.length ≤ C.length from by rw [HX1l.out, HCL1.out, ← HW1.out]; exact Nat.le_trans hW1T HGC.out)
    have HO1 := Aside0.mk (show ∀ v ∈ X1, v.oneCell' = true from by rw [HX1.out]; exact ones_u8 _)
    have HO2 := Aside0.mk (show ∀ v ∈ X2, v.oneCell' = true from by rw [HX2.out]; exact ones_u8 _)
    have HP1 := Aside0.mk (show 0 < X1.length → D1 = some ⟨g, W0, none⟩ ∧ ∃ ad, B2 = some ad ∧ ∀ j v, X1[j]? = some v → wa.cell? (ad.add j) = some v from fun h => by
     rw [HX1l.out] at h
     obtain ⟨ad, e, hc⟩ := src_cells (HB2c.out wa (Kd.C_below HR0.out HBa.out)) h
     rw [HX1.out]
     exact ⟨HD1c.out (room_lt h HW1.out hW1T HGC.out), ad, e, hc⟩)
    have HS1 := Aside0.mk (show (splice C W0 X1).length = cap from by rw [length_splice _ _ _ HF1.out]; exact HCL1.out)
    have HF2 := Aside0.mk (show W1 + X2.length ≤ (splice C W0 X1).length from by rw [HS1.out, HX2l.out, ← HW2.out]; exact Nat.le_trans HW2T.out HGC.out)
    have hw2r : IntKind.i64.wrap ((W0 : Int) + (X1.length : Int)) = (W1 : Int) := by rw [i64_wrap_eq]; exact hw2
    go_region_law (refine step_copy_splice rfl (.tmp 61) (.tmp 65) 22 22 rfl 5 Tryd.underlying22 (by rw [HI.out]; exact congrArg some HZ.out) D1 B2 (T - W0) (cap - W0) k (c0 - st) ?hd ?hs g W0 C 5 HCa.out X1 HN1.out HP1.out HF1.out HO1.out w.heap.size w HBa.out.drew HGB.out ?_; (case hd => go_simp); (case hs => go_simp); intro wb hgb hbb; have HGb := Aside0.mk hgb.out; have HBb := Aside0.mk hbb; clear hgb hbb)
    clear HCa HBa HP1 wa
    have HP2 := Aside0.mk (show 0 < X2.length → D2 = some ⟨g, W1, none⟩ ∧ ∃ ad, A2 = some ad ∧ ∀ j v, X2[j]? = some v → wb.cell? (ad.add j) = some v from fun h => by
     rw [HX2l.out] at h
     obtain ⟨ad, e, hc⟩ := src_cells (Kd.C_below HR2.out HBb.out) h
     rw [HX2.out]
     exact ⟨HD2c.out (room_lt h HW2.out HW2T.out HGC.out), ad, e, hc⟩)
    go_wp2_with ((with_reducible refine gate_builtin (b := .copy) (xs := #[.tmp 71, .tmp 72]) rfl ?_); refine wpList_copy_splice rfl (.tmp 71) (.tmp 72) 22 22 rfl 5 Tryd.underlying22 (by rw [HI.out]; exact congrArg some HZ.out) D2 A2 (T - W1) (cap - W1) new.length c2 rfl rfl g W1 (splice C W0 X1) 5 HGb.out X2 HN2.out HP2.out HF2.out HO2.out w.heap.size w HBb.out HGB.out ?_; intro wc hgc hbc; have HGc := Aside0.mk hgc.out; have HBc := Aside0.mk hbc; clear hgc hbc)
    go_roundw
    case rel =>
     refine ⟨W2, s2, i + 1, splice (splice C W0 X1) W1 X2, ?_, ?_, ?_, ⟨?_⟩, Hs2l, HCT2, HW22, ⟨by rw [length_splice _ _ _ HF2.out]; exact HS1.out⟩, ⟨?_⟩, HGc, HBc⟩
     ·rw [hw3]
     ·rw [Hs2.out]; go_num
     ·rw [HW5.out]
     ·exact HLT.out
     ·exact two_splices HW1.out HX1l.out HW2.out HX2l.out HF1.out HF2.out HCT1.out HREP2.out
    case measure =>
     rw [HW5.out]
     exact meas_lt HLT.out
   ·obtain ⟨X, hX, hXl, hXn, hW0T, hWX, hwx, hrep, hroom, hTc⟩ := end_facts HTOT.out HTM.out HGC.out HIM.out HCT.out HST.out HW0.out hlt
    have hs : st ≤ l.length := HST.out
    have HXn := Aside0.mk hXn
    have HWX := Aside0.mk hWX
    have HXX := Aside0.mk hX
    have HXL := Aside0.mk hXl
    have HREP := Aside0.mk hrep
    have HROOM := Aside0.mk hroom
    clear hX hXl hXn hWX hrep hroom
    obtain ⟨B1, hB1, hB1c⟩ := cut_read (P := Tryd.prog) 22 5 Tryd.underlying22 HI.out HZ.out A0 c0 st l hs hc0
    obtain ⟨D1, hD1, hD1c⟩ := cut_own (P := Tryd.prog) 22 5 .i64 Tryd.underlying22 HI.out HZ.out g T cap W0 hW0T
    have HB1c := Aside0.mk (fun w => hB1c w)
    have HD1c := Aside0.mk hD1c
    clear hB1c hD1c
    have HF1 := Aside0.mk (show W0 + X.length ≤ C.length from by rw [HWX.out, HCL1.out]; exact HGC.out)
    have HO1 := Aside0.mk (show ∀ v ∈ X, v.oneCell' = true from by rw [HXX.out]; exact ones_u8 _)
    have HP1 := Aside0.mk (show 0 < X.length → D1 = some ⟨g, W0, none⟩ ∧ ∃ ad, B1 = some ad ∧ ∀ j v, X[j]? = some v → wr.cell? (ad.add j) = some v from fun h => by
     obtain ⟨ad, e, hc⟩ := src_cells (HB1c.out wr (Kd.C_below HR0.out HB1.out)) (by rw [← HXL.out]; exact h)
     rw [HXX.out]
     exact ⟨HD1c.out (HROOM.out h), ad, e, hc⟩)
    have hwxr : IntKind.i64.wrap ((W0 : Int) + (X.length : Int)) = (T : Int) := by rw [i64_wrap_eq]; exact hwx
    go_wp2
    go_region_law (refine step_copy_splice rfl (.tmp 123) (.tmp 126) 22 22 rfl 5 Tryd.underlying22 (by rw [HI.out]; exact congrArg some HZ.out) D1 B1 (T - W0) (cap - W0) (l.length - st) (c0 - st) ?hd ?hs g W0 C 5 HC.out X HXn.out HP1.out HF1.out HO1.out w.heap.size w HB1.out.drew HGB.out ?_; (case hd => go_simp); (case hs => go_simp); intro wb hgb hbb; have HGb := Aside0.mk hgb.out; have HBb := Aside0.mk hbb; clear hgb hbb)
    go_wp2
    go_ret
    refine ⟨_, rfl, ?_, HBb.out⟩
    have hlen : (repS x new l).length = T := HTOT.out
    have := own_shut (ok := fun _ => True) (xs := repS x new l) HGB.out HGb.out (by rw [hlen]; exact HGC.out) HGM.out (by rw [length_splice _ _ _ HF1.out]; exact HCL1.out) (by rw [hlen, ← HWX.out, take_splice _ _ _ HF1.out, HCT1.out, HXX.out, HREP.out, List.map_append]) trivial
    rw [hlen] at this
    exact this
def bytes_ReplaceAll.f (l0 l1 l2 : List Int) : Option (List Int) := if l1.length = 1 ∧ 1 ≤ l2.length ∧ l2.length ≤ 1000 ∧ l0.length ≤ 1000000 ∧ (0 ≤ rd l1 0 ∧ rd l1 0 < 256) ∧ u8s l0 = true then some (repS (rd l1 0) l2 l0) else none
theorem bytes_ReplaceAll.calls (A0 : Option Addr) (c0 : Nat) (l0 : List Int) (A1 : Option Addr) (c1 : Nat) (l1 : List Int) (A2 : Option Addr) (c2 : Nat) (l2 : List Int) (r : List Int) (w : World) (hG : Gl w)
  (hr0 : Kd.C (Kd.int .u8) w A0 l0.length l0) (hc0 : l0.length ≤ c0) (hr1 : Kd.C (Kd.int .u8) w A1 l1.length l1) (hc1 : l1.length ≤ c1) (hr2 : Kd.C (Kd.int .u8) w A2 l2.length l2) (hc2 : l2.length ≤ c2) (h : bytes_ReplaceAll.f l0 l1 l2 = some r) :
  Calls Tryd.prog 32 #[.slice A0 l0.length c0, .slice A1 l1.length c1, .slice A2 l2.length c2] w fun e w' => ∃ v0_ : Value, e = .returned (v0_) ∧ Kd.R (Kd.int .u8) 5 w' w.heap.size (fun _ => True) v0_ r ∧ Below w.heap.size w w' := by
 unfold bytes_ReplaceAll.f at h
 by_cases hb : l1.length = 1 ∧ 1 ≤ l2.length ∧ l2.length ≤ 1000 ∧ l0.length ≤ 1000000 ∧ (0 ≤ rd l1 0 ∧ rd l1 0 < 256) ∧ u8s l0 = true
 rotate_left
 ·rw [if_neg hb] at h; cases h
 rw [if_pos hb] at h
 obtain rfl := Option.some.inj h
 obtain ⟨h1, h2, h3, h4, h5, h6⟩ := hb
 clear h
 obtain ⟨x, rfl⟩ : ∃ x, l1 = [x] := by
  match l1, h1 with
  | [x], _ => exact ⟨x, rfl⟩
 have HC := Aside0.mk (bytes_Replace_all A0 c0 l0 A1 c1 x A2 c2 l2 w hr0 hc0 hr1 hr2 hc1 hc2 h4 h2 h3 h5 h6)
 clear hr0 hr1 hr2 h1 h2 h3 h4 h5 h6 hG
 show Calls Tryd.prog 32 #[.slice A0 l0.length c0, .slice A1 1 c1, .slice A2 l2.length c2] w _
 go_enter Tryd.func32, Tryd.ntmps32
 go_wp2_with (go_at_call 54; refine HC.out.mono ?_; rintro e w' ⟨v, rfl, hv, hb⟩; have HV := Aside0.mk hv; have HB := Aside0.mk hb; clear hv hb)
 go_ret
 exact ⟨_, rfl, HV.out, HB.out⟩
end Go.Proofs.YtdejidhgeefmeaaDoor.P
