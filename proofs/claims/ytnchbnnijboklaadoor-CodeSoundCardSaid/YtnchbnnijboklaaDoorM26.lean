/- By a program of this session: what Go functions of the seat compute, as Lean functions, each with a proof that the call of the Go function comes to that. -/
import Derived.Test.YtnchbnnijboklaaDoorM0
import Derived.Test.YtnchbnnijboklaaDoorM7
import Derived.Test.YtnchbnnijboklaaDoorM8
import Derived.Test.YtnchbnnijboklaaDoorM9
import Derived.Test.YtnchbnnijboklaaDoorM12
import Derived.Test.YtnchbnnijboklaaDoorM14
import Derived.Test.YtnchbnnijboklaaDoorM16
import Derived.Test.YtnchbnnijboklaaDoorM19
import Derived.Test.YtnchbnnijboklaaDoorM25
namespace Go.Proofs.YtnchbnnijboklaaDoor.M
open Go.RowKit Go.Proofs.YtnchbnnijboklaaDoorW.PrintWords Go.Proofs.YtnchbnnijboklaaDoorW.PrintLast Go.Proofs.YtnchbnnijboklaaDoorW.PrintMore
attribute [local go_sem] max2_int min2_int max_two min_two max_three min_three max_four min_four   -- for this text's walks alone
set_option linter.unusedVariables false
set_option linter.unusedSimpArgs false
mutual
def hurdlelaw12_CodeSound.j0 : Nat → List (S30) → List (S33) → Bool → Int → Int → List Int → Int → Int → Int → List Int → Option (Bool)
 | 0, _, _, _, _, _, _, _, _, _, _ => none
 | k + 1, x0, x1, x26, x345000, x345001, x345002, x346000, x346001, x346002, x346003 => if x26 = true then ((hurdlelaw12_knows.f k).bind fun t347 => (some t347)) else (hurdlelaw12_CodeSound.l0 k x0 x1 0 x345000 x345001 x345002 x346000 x346001 x346002 x346003)
def hurdlelaw12_CodeSound.l0 : Nat → List (S30) → List (S33) → Int → Int → Int → List Int → Int → Int → Int → List Int → Option (Bool)
 | 0, _, _, _, _, _, _, _, _, _, _ => none
 | k + 1, x0, x1, x9, x345000, x345001, x345002, x346000, x346001, x346002, x346003 => if x9 < (x1.length : Int) then (hurdlelaw12_CodeSound.j2 k x0 x1 x9 (decide (x9 < 20)) x345000 x345001 x345002 x346000 x346001 x346002 x346003) else (hurdlelaw12_CodeSound.j2 k x0 x1 x9 false x345000 x345001 x345002 x346000 x346001 x346002 x346003)
def hurdlelaw12_CodeSound.j2 : Nat → List (S30) → List (S33) → Int → Bool → Int → Int → List Int → Int → Int → Int → List Int → Option (Bool)
 | 0, _, _, _, _, _, _, _, _, _, _, _ => none
 | k + 1, x0, x1, x9, x35, x345000, x345001, x345002, x346000, x346001, x346002, x346003 => if x35 = true then (if 0 ≤ x9 then (if x9 < (x1.length : Int) then (if ((rd_T33 x1 x9).f0) = 0 then ((hurdleref05_One.f k ((rd_T33 x1 x9).f1.f0) ((rd_T33 x1 x9).f1.f1) ((rd_T33 x1 x9).f1.f2) ((rd_T33 x1 x9).f1.f3) 0 2).bind fun t350 => (hurdlelaw12_CodeSound.j3 k x0 x1 x9 (t350 != 0) x345000 x345001 x345002 x346000 x346001 x346002 x346003 ((rd_T33 x1 x9).f0) ((rd_T33 x1 x9).f1.f0) ((rd_T33 x1 x9).f1.f1) ((rd_T33 x1 x9).f1.f2) ((rd_T33 x1 x9).f1.f3) ((rd_T33 x1 x9).f2) ((rd_T33 x1 x9).f3))) else (hurdlelaw12_CodeSound.j3 k x0 x1 x9 false x345000 x345001 x345002 x346000 x346001 x346002 x346003 ((rd_T33 x1 x9).f0) ((rd_T33 x1 x9).f1.f0) ((rd_T33 x1 x9).f1.f1) ((rd_T33 x1 x9).f1.f2) ((rd_T33 x1 x9).f1.f3) ((rd_T33 x1 x9).f2) ((rd_T33 x1 x9).f3))) else (none)) else (none)) else ((hurdlelaw12_knows.f k).bind fun t364 => (some t364))
def hurdlelaw12_CodeSound.j3 : Nat → List (S30) → List (S33) → Int → Bool → Int → Int → List Int → Int → Int → Int → List Int → Int → Int → Int → Int → Int → Int → Int → Option (Bool)
 | 0, _, _, _, _, _, _, _, _, _, _, _, _, _, _, _, _, _, _ => none
 | k + 1, x0, x1, x9, x50, x345000, x345001, x345002, x346000, x346001, x346002, x346003, x350000, x350001, x350002, x350003, x350004, x350005, x350006 => if x50 = true then (hurdlelaw12_CodeSound.l0 k x0 x1 (wrap64 (x9 + 1)) x345000 x345001 x345002 x346000 x346001 x346002 x346003) else ((hurdlelaw12_Do.f k x0 x350000 x350001 x350002 x350003 x350004 x350005 x350006).bind fun bt351 => (if bt351.2.2 = 0 then ((check_Sound.f k bt351.1).bind fun t356 => (if t356 = true then (if bt351.2.1 < 1 then (hurdlelaw12_CodeSound.j4 k x0 x1 x9 bt351.1 bt351.2.1 true x345000 x345001 x345002 x346000 x346001 x346002 x346003 x350000 x350001 x350002 x350003 x350004 x350005 x350006) else (hurdlelaw12_CodeSound.j4 k x0 x1 x9 bt351.1 bt351.2.1 (decide (bt351.2.1 > (bt351.1.length : Int))) x345000 x345001 x345002 x346000 x346001 x346002 x346003 x350000 x350001 x350002 x350003 x350004 x350005 x350006)) else (hurdlelaw12_CodeSound.j4 k x0 x1 x9 bt351.1 bt351.2.1 true x345000 x345001 x345002 x346000 x346001 x346002 x346003 x350000 x350001 x350002 x350003 x350004 x350005 x350006))) else (hurdlelaw12_CodeSound.l0 k x0 x1 (wrap64 (x9 + 1)) x345000 x345001 x345002 x346000 x346001 x346002 x346003)))
def hurdlelaw12_CodeSound.j4 : Nat → List (S30) → List (S33) → Int → List (S30) → Int → Bool → Int → Int → List Int → Int → Int → Int → List Int → Int → Int → Int → Int → Int → Int → Int → Option (Bool)
 | 0, _, _, _, _, _, _, _, _, _, _, _, _, _, _, _, _, _, _, _, _ => none
 | k + 1, x0, x1, x9, x11, x12, x72, x345000, x345001, x345002, x346000, x346001, x346002, x346003, x350000, x350001, x350002, x350003, x350004, x350005, x350006 => if x72 = true then (none) else ((hurdlelaw12_at.f x0 x350005).bind fun t357 => (if x350000 = 0 then (hurdlelaw12_CodeSound.j5 k x0 x1 x9 x11 x12 t357 false x345000 x345001 x345002 x346000 x346001 x346002 x346003 x350000 x350001 x350002 x350003 x350004 x350005 x350006) else (if x350000 = 1 then (hurdlelaw12_CodeSound.j5 k x0 x1 x9 x11 x12 t357 false x345000 x345001 x345002 x346000 x346001 x346002 x346003 x350000 x350001 x350002 x350003 x350004 x350005 x350006) else ((hurdleref06_Takes.f k x345000 x345001 x345002 x350001 0 0 x350004).bind fun t358 => (hurdlelaw12_CodeSound.j5 k x0 x1 x9 x11 x12 t357 (!t358) x345000 x345001 x345002 x346000 x346001 x346002 x346003 x350000 x350001 x350002 x350003 x350004 x350005 x350006)))))
def hurdlelaw12_CodeSound.j5 : Nat → List (S30) → List (S33) → Int → List (S30) → Int → Int → Bool → Int → Int → List Int → Int → Int → Int → List Int → Int → Int → Int → Int → Int → Int → Int → Option (Bool)
 | 0, _, _, _, _, _, _, _, _, _, _, _, _, _, _, _, _, _, _, _, _, _ => none
 | k + 1, x0, x1, x9, x11, x12, x14, x96, x345000, x345001, x345002, x346000, x346001, x346002, x346003, x350000, x350001, x350002, x350003, x350004, x350005, x350006 => if x96 = true then ((hurdlelaw12_at.f x0 x350006).bind fun t359 => (hurdlelaw12_CodeSound.j6 k x0 x1 x9 x11 x12 t359 x345000 x345001 x345002 x346000 x346001 x346002 x346003 x350000 x350001 x350002 x350003 x350004 x350005 x350006)) else (hurdlelaw12_CodeSound.j6 k x0 x1 x9 x11 x12 x14 x345000 x345001 x345002 x346000 x346001 x346002 x346003 x350000 x350001 x350002 x350003 x350004 x350005 x350006)
def hurdlelaw12_CodeSound.j6 : Nat → List (S30) → List (S33) → Int → List (S30) → Int → Int → Int → Int → List Int → Int → Int → Int → List Int → Int → Int → Int → Int → Int → Int → Int → Option (Bool)
 | 0, _, _, _, _, _, _, _, _, _, _, _, _, _, _, _, _, _, _, _, _ => none
 | k + 1, x0, x1, x9, x11, x12, x14, x345000, x345001, x345002, x346000, x346001, x346002, x346003, x350000, x350001, x350002, x350003, x350004, x350005, x350006 => (hurdleref06_From.f k x11 x345000 x345001 x345002 (wrap64 ((x11.length : Int) - x12)) x346000 x346001 x346002 x346003).bind fun bt360 => ((hurdleref06_From.f k x0 x345000 x345001 x345002 (wrap64 ((x0.length : Int) - x14)) x346000 x346001 x346002 x346003).bind fun bt362 => (if x350000 = 0 then (hurdlelaw12_CodeSound.l0 k x11 x1 (wrap64 (x9 + 1)) x345000 x345001 x345002 x346000 x346001 x346002 x346003) else (if bt360.1 = bt362.1 then (hurdlelaw12_CodeSound.l0 k x11 x1 (wrap64 (x9 + 1)) x345000 x345001 x345002 x346000 x346001 x346002 x346003) else (none))))
end
def hurdlelaw12_CodeSound.f (k : Nat) (l0 : List (S30)) (l1 : List (S33)) (a2_0 : Int) (a2_1 : Int) (a2_2 : List Int) (a3_0 : Int) (a3_1 : Int) (a3_2 : Int) (a3_3 : List Int) : Option (Bool) := if (l0.length : Int) > 500 then (hurdlelaw12_CodeSound.j0 k l0 l1 true a2_0 a2_1 a2_2 a3_0 a3_1 a3_2 a3_3) else ((hurdleref05_Sound.f k l0).bind fun t346 => (hurdlelaw12_CodeSound.j0 k l0 l1 (!t346) a2_0 a2_1 a2_2 a3_0 a3_1 a3_2 a3_3))
theorem hurdlelaw12_CodeSound.mono_l : ∀ k, (∀ y0 y1 y2 y3 y4 y5 y6 y7 y8 y9, LeO (hurdlelaw12_CodeSound.j0 k y0 y1 y2 y3 y4 y5 y6 y7 y8 y9) (hurdlelaw12_CodeSound.j0 (k + 1) y0 y1 y2 y3 y4 y5 y6 y7 y8 y9)) ∧ (∀ y0 y1 y2 y3 y4 y5 y6 y7 y8 y9, LeO (hurdlelaw12_CodeSound.l0 k y0 y1 y2 y3 y4 y5 y6 y7 y8 y9) (hurdlelaw12_CodeSound.l0 (k + 1) y0 y1 y2 y3 y4 y5 y6 y7 y8 y9)) ∧ (∀ y0 y1 y2 y3 y4 y5 y6 y7 y8 y9 y10, LeO (hurdlelaw12_CodeSound.j2 k y0 y1 y2 y3 y4 y5 y6 y7 y8 y9 y10) (hurdlelaw12_CodeSound.j2 (k + 1) y0 y1 y2 y3 y4 y5 y6 y7 y8 y9 y10)) ∧ (∀ y0 y1 y2 y3 y4 y5 y6 y7 y8 y9 y10 y11 y12 y13 y14 y15 y16 y17, LeO (hurdlelaw12_CodeSound.j3 k y0 y1 y2 y3 y4 y5 y6 y7 y8 y9 y10 y11 y12 y13 y14 y15 y16 y17) (hurdlelaw12_CodeSound.j3 (k + 1) y0 y1 y2 y3 y4 y5 y6 y7 y8 y9 y10 y11 y12 y13 y14 y15 y16 y17)) ∧ (∀ y0 y1 y2 y3 y4 y5 y6 y7 y8 y9 y10 y11 y12 y13 y14 y15 y16 y17 y18 y19, LeO (hurdlelaw12_CodeSound.j4 k y0 y1 y2 y3 y4 y5 y6 y7 y8 y9 y10 y11 y12 y13 y14 y15 y16 y17 y18 y19) (hurdlelaw12_CodeSound.j4 (k + 1) y0 y1 y2 y3 y4 y5 y6 y7 y8 y9 y10 y11 y12 y13 y14 y15 y16 y17 y18 y19)) ∧ (∀ y0 y1 y2 y3 y4 y5 y6 y7 y8 y9 y10 y11 y12 y13 y14 y15 y16 y17 y18 y19 y20, LeO (hurdlelaw12_CodeSound.j5 k y0 y1 y2 y3 y4 y5 y6 y7 y8 y9 y10 y11 y12 y13 y14 y15 y16 y17 y18 y19 y20) (hurdlelaw12_CodeSound.j5 (k + 1) y0 y1 y2 y3 y4 y5 y6 y7 y8 y9 y10 y11 y12 y13 y14 y15 y16 y17 y18 y19 y20)) ∧ (∀ y0 y1 y2 y3 y4 y5 y6 y7 y8 y9 y10 y11 y12 y13 y14 y15 y16 y17 y18 y19, LeO (hurdlelaw12_CodeSound.j6 k y0 y1 y2 y3 y4 y5 y6 y7 y8 y9 y10 y11 y12 y13 y14 y15 y16 y17 y18 y19) (hurdlelaw12_CodeSound.j6 (k + 1) y0 y1 y2 y3 y4 y5 y6 y7 y8 y9 y10 y11 y12 y13 y14 y15 y16 y17 y18 y19))
 | 0 => ⟨fun _ _ _ _ _ _ _ _ _ _ r h => by simp [hurdlelaw12_CodeSound.j0] at h, fun _ _ _ _ _ _ _ _ _ _ r h => by simp [hurdlelaw12_CodeSound.l0] at h, fun _ _ _ _ _ _ _ _ _ _ _ r h => by simp [hurdlelaw12_CodeSound.j2] at h, fun _ _ _ _ _ _ _ _ _ _ _ _ _ _ _ _ _ _ r h => by simp [hurdlelaw12_CodeSound.j3] at h, fun _ _ _ _ _ _ _ _ _ _ _ _ _ _ _ _ _ _ _ _ r h => by simp [hurdlelaw12_CodeSound.j4] at h, fun _ _ _ _ _ _ _ _ _ _ _ _ _ _ _ _ _ _ _ _ _ r h => by simp [hurdlelaw12_CodeSound.j5] at h, fun _ _ _ _ _ _ _ _ _ _ _ _ _ _ _ _ _ _ _ _ r h => by simp [hurdlelaw12_CodeSound.j6] at h⟩
 | k + 1 => by
  obtain ⟨ih0, ih1, ih2, ih3, ih4, ih5, ih6⟩ := hurdlelaw12_CodeSound.mono_l k
  refine ⟨?_, ?_, ?_, ?_, ?_, ?_, ?_⟩
  all_goals intros
  all_goals first | unfold hurdlelaw12_CodeSound.j0 | unfold hurdlelaw12_CodeSound.l0 | unfold hurdlelaw12_CodeSound.j2 | unfold hurdlelaw12_CodeSound.j3 | unfold hurdlelaw12_CodeSound.j4 | unfold hurdlelaw12_CodeSound.j5 | unfold hurdlelaw12_CodeSound.j6
  all_goals repeat' first
   | (with_reducible exact ih0 _ _ _ _ _ _ _ _ _ _)
   | (with_reducible exact ih1 _ _ _ _ _ _ _ _ _ _)
   | (with_reducible exact ih2 _ _ _ _ _ _ _ _ _ _ _)
   | (with_reducible exact ih3 _ _ _ _ _ _ _ _ _ _ _ _ _ _ _ _ _ _)
   | (with_reducible exact ih4 _ _ _ _ _ _ _ _ _ _ _ _ _ _ _ _ _ _ _ _)
   | (with_reducible exact ih5 _ _ _ _ _ _ _ _ _ _ _ _ _ _ _ _ _ _ _ _ _)
   | (with_reducible exact ih6 _ _ _ _ _ _ _ _ _ _ _ _ _ _ _ _ _ _ _ _)
   | (with_reducible exact check_Sound.mono _ _)
   | (with_reducible exact hurdlelaw12_Do.mono _ _ _ _ _ _ _ _ _)
   | (with_reducible exact hurdlelaw12_knows.mono _)
   | (with_reducible exact hurdleref05_One.mono _ _ _ _ _ _ _)
   | (with_reducible exact hurdleref05_Sound.mono _ _)
   | (with_reducible exact hurdleref06_From.mono _ _ _ _ _ _ _ _ _ _)
   | (with_reducible exact hurdleref06_Takes.mono _ _ _ _ _ _ _ _)
   | (with_reducible exact LeO.refl _)
   | (with_reducible exact LeO.none _)
   | (with_reducible refine LeO.ite ?_ ?_)
   | (with_reducible refine LeO.bind ?_ (fun _ => ?_))
   | exact ih0 _ _ _ _ _ _ _ _ _ _
   | exact ih1 _ _ _ _ _ _ _ _ _ _
   | exact ih2 _ _ _ _ _ _ _ _ _ _ _
   | exact ih3 _ _ _ _ _ _ _ _ _ _ _ _ _ _ _ _ _ _
   | exact ih4 _ _ _ _ _ _ _ _ _ _ _ _ _ _ _ _ _ _ _ _
   | exact ih5 _ _ _ _ _ _ _ _ _ _ _ _ _ _ _ _ _ _ _ _ _
   | exact ih6 _ _ _ _ _ _ _ _ _ _ _ _ _ _ _ _ _ _ _ _
   | exact check_Sound.mono _ _
   | exact hurdlelaw12_Do.mono _ _ _ _ _ _ _ _ _
   | exact hurdlelaw12_knows.mono _
   | exact hurdleref05_One.mono _ _ _ _ _ _ _
   | exact hurdleref05_Sound.mono _ _
   | exact hurdleref06_From.mono _ _ _ _ _ _ _ _ _ _
   | exact hurdleref06_Takes.mono _ _ _ _ _ _ _ _
   | exact LeO.none _
   | refine LeO.ite ?_ ?_
   | refine LeO.bind ?_ (fun _ => ?_)
theorem hurdlelaw12_CodeSound.mono : ∀ a0 a1 a2 a3 a4 a5 a6 a7 a8 k, LeO (hurdlelaw12_CodeSound.f k a0 a1 a2 a3 a4 a5 a6 a7 a8) (hurdlelaw12_CodeSound.f (k + 1) a0 a1 a2 a3 a4 a5 a6 a7 a8) := by
 intro a0 a1 a2 a3 a4 a5 a6 a7 a8 k
 obtain ⟨ih0, ih1, ih2, ih3, ih4, ih5, ih6⟩ := hurdlelaw12_CodeSound.mono_l k
 unfold hurdlelaw12_CodeSound.f
 repeat' first
   | (with_reducible exact ih0 _ _ _ _ _ _ _ _ _ _)
   | (with_reducible exact ih1 _ _ _ _ _ _ _ _ _ _)
   | (with_reducible exact ih2 _ _ _ _ _ _ _ _ _ _ _)
   | (with_reducible exact ih3 _ _ _ _ _ _ _ _ _ _ _ _ _ _ _ _ _ _)
   | (with_reducible exact ih4 _ _ _ _ _ _ _ _ _ _ _ _ _ _ _ _ _ _ _ _)
   | (with_reducible exact ih5 _ _ _ _ _ _ _ _ _ _ _ _ _ _ _ _ _ _ _ _ _)
   | (with_reducible exact ih6 _ _ _ _ _ _ _ _ _ _ _ _ _ _ _ _ _ _ _ _)
   | (with_reducible exact check_Sound.mono _ _)
   | (with_reducible exact hurdlelaw12_Do.mono _ _ _ _ _ _ _ _ _)
   | (with_reducible exact hurdlelaw12_knows.mono _)
   | (with_reducible exact hurdleref05_One.mono _ _ _ _ _ _ _)
   | (with_reducible exact hurdleref05_Sound.mono _ _)
   | (with_reducible exact hurdleref06_From.mono _ _ _ _ _ _ _ _ _ _)
   | (with_reducible exact hurdleref06_Takes.mono _ _ _ _ _ _ _ _)
   | (with_reducible exact LeO.refl _)
   | (with_reducible exact LeO.none _)
   | (with_reducible refine LeO.ite ?_ ?_)
   | (with_reducible refine LeO.bind ?_ (fun _ => ?_))
   | exact ih0 _ _ _ _ _ _ _ _ _ _
   | exact ih1 _ _ _ _ _ _ _ _ _ _
   | exact ih2 _ _ _ _ _ _ _ _ _ _ _
   | exact ih3 _ _ _ _ _ _ _ _ _ _ _ _ _ _ _ _ _ _
   | exact ih4 _ _ _ _ _ _ _ _ _ _ _ _ _ _ _ _ _ _ _ _
   | exact ih5 _ _ _ _ _ _ _ _ _ _ _ _ _ _ _ _ _ _ _ _ _
   | exact ih6 _ _ _ _ _ _ _ _ _ _ _ _ _ _ _ _ _ _ _ _
   | exact check_Sound.mono _ _
   | exact hurdlelaw12_Do.mono _ _ _ _ _ _ _ _ _
   | exact hurdlelaw12_knows.mono _
   | exact hurdleref05_One.mono _ _ _ _ _ _ _
   | exact hurdleref05_Sound.mono _ _
   | exact hurdleref06_From.mono _ _ _ _ _ _ _ _ _ _
   | exact hurdleref06_Takes.mono _ _ _ _ _ _ _ _
   | exact LeO.none _
   | refine LeO.ite ?_ ?_
   | refine LeO.bind ?_ (fun _ => ?_)
set_option maxHeartbeats 8000000 in
set_option maxRecDepth 100000 in
theorem hurdlelaw12_CodeSound.calls (k : Nat) (P0_ : Nat → Prop) (A0 : Option Addr) (c0 : Nat) (l0 : List (S30)) (A1 : Option Addr) (c1 : Nat) (l1 : List (S33)) (a2_0 : Int) (a2_1 : Int) (a2_2 : List Int) (a3_0 : Int) (a3_1 : Int) (a3_2 : Int) (a3_3 : List Int) (r : Bool) (w : World) (hs0 : Kd.V k30 30 w w.heap.size (fun k_ => P0_ k_) (.slice A0 l0.length c0) l0) (hr1 : Kd.C k33 w A1 l1.length l1) (hc1 : l1.length ≤ c1) (hG : Glob w) (h : hurdlelaw12_CodeSound.f k l0 l1 a2_0 a2_1 a2_2 a3_0 a3_1 a3_2 a3_3 = some r) :
  Calls Tryd.prog 7 #[.slice A0 l0.length c0, .slice A1 l1.length c1, .agg (arC [.int .u32 a2_0, .int .u32 a2_1] .u32 16 a2_2), .agg (arC [.int .u32 a3_0, .int .u32 a3_1, .int .u64 a3_2] .u64 6 a3_3)] w fun e w' => e = .returned (.bool r) ∧ Below w.heap.size w w' := by
 have hu47 := Tryd.underlying47
 have hu51 := Tryd.underlying51
 have hu33 := Tryd.underlying33
 have hu30 := Tryd.underlying30
 have HG := Aside0.mk hG
 clear hG
 have HO0 := Aside0.mk (show Kd.V k30 30 w w.heap.size (fun k_ => (P0_ k_ ∨ w.heap.size ≤ k_)) (.slice A0 l0.length c0) l0 from Kd.V_mono hs0 (fun k_ hk => .inl hk))
 have HR1 := Aside0.mk hr1
 have HC1 := Aside0.mk hc1
 clear hr1 hc1
 have HB := Aside0.mk (Below.refl w.heap.size w)
 have H : (if (l0.length : Int) > 500 then (hurdlelaw12_CodeSound.j0 k l0 l1 true a2_0 a2_1 a2_2 a3_0 a3_1 a3_2 a3_3) else ((hurdleref05_Sound.f k l0).bind fun t346 => (hurdlelaw12_CodeSound.j0 k l0 l1 (!t346) a2_0 a2_1 a2_2 a3_0 a3_1 a3_2 a3_3))) = some r := h
 clear h
 have HC5 := Aside0.mk H
 clear H
 go_enter Tryd.func7, Tryd.ntmps7
 go_upto_region 1 with (first | ((with_reducible refine gate_dst (N := 6) rfl ?_); (try (refine gate_guard (by rfl) ?_; dsimp only)); refine box_event ?hg (N := 6) ?hd (cs := (arC [.int .u32 a2_0, .int .u32 a2_1] .u32 16 a2_2)) (t := 47) ?hr ?_; (case hd => rfl); (case hg => rfl); (case hr => first | (go_simp; done) | (go_simp; rfl)); intro gb344 hg w6 hbox hb; have n0_ := Aside0.mk (Kd.V_below (Kd.V_elderB (jV HO0) gb344 (Nat.le_of_eq hg.symm)) hb); have n1_ := Aside0.mk (zT (jH HB) hb); have n2_ := Aside0.mk (hbox); have n3_ := Aside0.mk ((by rw [hg]; exact (zZ (jH HB)) : w.heap.size ≤ gb344)); have n4_ := Aside0.mk ((by rw [hg]; exact (zZ (jH HB)) : w.heap.size ≤ gb344)); clear HO0; clear HB; have HO0 := n0_; have HB := n1_; have BK344 := n2_; have GW344 := n3_; have GE344 := n4_; clear n0_ n1_ n2_ n3_ n4_; clear hb hbox hg) | ((with_reducible refine gate_dst (N := 7) rfl ?_); (try (refine gate_guard (by rfl) ?_; dsimp only)); refine box_event ?hg (N := 7) ?hd (cs := (arC [.int .u32 a3_0, .int .u32 a3_1, .int .u64 a3_2] .u64 6 a3_3)) (t := 51) ?hr ?_; (case hd => rfl); (case hg => rfl); (case hr => first | (go_simp; done) | (go_simp; rfl)); intro gb345 hg w7 hbox hb; have n0_ := Aside0.mk (Kd.V_below (Kd.V_elderB (jV HO0) gb345 (Nat.le_of_eq hg.symm)) hb); have n1_ := Aside0.mk (jB BK344 hb); have n2_ := Aside0.mk (zT (jH HB) hb); have n3_ := Aside0.mk (hbox); have n4_ := Aside0.mk ((by rw [hg]; exact (zZ (jH HB)) : w.heap.size ≤ gb345)); have n5_ := Aside0.mk ((by rw [hg]; exact (zZ (jH HB)) : w.heap.size ≤ gb345)); have n6_ := Aside0.mk ((by rw [hg]; exact Nat.ne_of_lt (jL BK344) : gb344 ≠ gb345)); have n7_ := Aside0.mk ((by rw [hg]; exact Nat.ne_of_gt (jL BK344) : gb345 ≠ gb344)); clear HO0; clear BK344; clear HB; have HO0 := n0_; have BK344 := n1_; have HB := n2_; have BK345 := n3_; have GW345 := n4_; have GE345 := n5_; have NB344_345 := n6_; have NB345_344 := n7_; clear n0_ n1_ n2_ n3_ n4_ n5_ n6_ n7_; clear hb hbox hg))
 (try simp only [Act.put, List.setIfInBounds_toArray, List.set_cons_zero, List.set_cons_succ])
 go_cut [26] (fun v26 wc => ∃ (kq : Nat) (x26_4 : Bool), v26 = .bool x26_4 ∧ Aside0 (hurdlelaw12_CodeSound.j0 kq l0 l1 x26_4 a2_0 a2_1 a2_2 a3_0 a3_1 a3_2 a3_3 = some r) ∧ Aside0 (kq ≤ k) ∧ Aside0 (Kd.V k30 30 wc w.heap.size (fun k_ => (P0_ k_ ∨ w.heap.size ≤ k_) ∧ k_ ≠ gb344 ∧ k_ ≠ gb345) (.slice A0 l0.length c0) l0) ∧ Aside0 (wc.heap[gb344]? = some (.cells (arC [.int .u32 a2_0, .int .u32 a2_1] .u32 16 a2_2) 47 (0, 0))) ∧ Aside0 (wc.heap[gb345]? = some (.cells (arC [.int .u32 a3_0, .int .u32 a3_1, .int .u64 a3_2] .u64 6 a3_3) 51 (0, 0))) ∧ Aside0 (Below w.heap.size w wc))
 case first =>
  have H := HC5.out
  clear HC5
  by_cases c8 : (l0.length : Int) > 500
  ·rw [if_pos c8] at H
   have c8b0 : decide (500 < (l0.length : Int)) = true := dT c8
   have c8b1 : decide (500 < l0.length) = true := dT (by omega)
   clear c8
   (first | rw [c8b0] | (simp only [i64_w, i32_w]; rw [c8b0]) | skip)
   have H' := Aside0.mk H
   clear H
   go_wp2
   go_meet
   case rel => exact ⟨_, (true), jS, H', ⟨jO⟩, ⟨by (with_reducible repeat (first | apply Kd.V_alloc | apply Kd.V_drewN | apply Kd.V_drew)); exact Kd.V_mono HO0.out (fun _ hk => ⟨hk.1.1, ⟨hk.1.2, hk.2⟩⟩)⟩, ⟨jK BK344⟩, ⟨jK BK345⟩, ⟨jH HB⟩⟩
  ·rw [if_neg c8] at H
   have c8b0 : decide (500 < (l0.length : Int)) = false := dF c8
   have c8b1 : decide (500 < l0.length) = false := dF (by omega)
   clear c8
   (first | rw [c8b0] | (simp only [i64_w, i32_w]; rw [c8b0]) | skip)
   replace H := Option.bind_eq_some_iff.mp H
   obtain ⟨t346, A90, H⟩ := H
   try dsimp only at H
   have A9 := Aside0.mk A90
   clear A90
   have H' := Aside0.mk H
   clear H
   go_wp2_with (first | (go_at_call 17; (with_reducible refine (hurdleref05_Sound.calls k _ _ l0 t346 _ ?side1 ?side2 A9.out).mono ?_); (case side1 => exact jC (Kd.V_reads' HO0.out).2.2); (case side2 => exact (Kd.V_reads' HO0.out).2.1); rintro e w10 ⟨rfl, hb⟩; have n0_ := Aside0.mk (Kd.V_below (jV HO0) hb); have n1_ := Aside0.mk (jB BK344 hb); have n2_ := Aside0.mk (jB BK345 hb); have n3_ := Aside0.mk (zT (jH HB) hb); clear HO0; clear BK344; clear BK345; clear HB; have HO0 := n0_; have BK344 := n1_; have BK345 := n2_; have HB := n3_; clear n0_ n1_ n2_ n3_; (try clear hb); (try clear hb2); (try clear hk); (try clear hi)))
   go_meet
   case rel => exact ⟨_, (!t346), jS, H', ⟨jO⟩, ⟨by (with_reducible repeat (first | apply Kd.V_alloc | apply Kd.V_drewN | apply Kd.V_drew)); exact Kd.V_mono HO0.out (fun _ hk => ⟨hk.1.1, ⟨hk.1.2, hk.2⟩⟩)⟩, ⟨jK BK344⟩, ⟨jK BK345⟩, ⟨jH HB⟩⟩
 case rest =>
  clear HC5
  obtain ⟨kq, x26_4, rfl, HA, HJ4, HO_0, BK344, BK345, HB⟩ := hcut
  cases kq with
  | zero => exact absurd HA.out (by simp [hurdlelaw12_CodeSound.j0])
  | succ kj4 =>
   have H := HA.out
   clear HA
   simp only [hurdlelaw12_CodeSound.j0] at H
   by_cases c11 : x26_4 = true
   ·subst c11
    rw [if_pos rfl] at H
    replace H := Option.bind_eq_some_iff.mp H
    obtain ⟨t347, A120, H⟩ := H
    try dsimp only at H
    have A12 := Aside0.mk A120
    clear A120
    obtain rfl := Option.some.inj H
    go_wp2_with (first | ((with_reducible refine gate_callee (f := 8) rfl ?_); refine goesL_ (some 27) rfl rfl Tryd.func8 (by kernel_rfl) rfl #[] rfl jZ ?_; (with_reducible refine (hurdlelaw12_knows.calls kj4  t347 _ ?side1 A12.out).mono ?_); (case side1 => exact Glob.below HG.out (jH HB)); rintro e w13 ⟨rfl, hb⟩; refine ⟨_, rfl, ?_⟩; have n0_ := Aside0.mk (Kd.V_below (jV HO_0) hb); have n1_ := Aside0.mk (jB BK344 hb); have n2_ := Aside0.mk (jB BK345 hb); have n3_ := Aside0.mk (zT (jH HB) hb); clear HO_0; clear BK344; clear BK345; clear HB; have HO_0 := n0_; have BK344 := n1_; have BK345 := n2_; have HB := n3_; clear n0_ n1_ n2_ n3_; (try clear hb); (try clear hb2); (try clear hk); (try clear hi)))
    go_ret
    exact ⟨jE, jH HB⟩
   ·replace c11 := Bool.eq_false_iff.mpr c11
    subst c11
    rw [if_neg (show ¬ (false = true) by decide)] at H
    have H' := Aside0.mk H
    clear H
    go_wp2
    go_loopg [0, 9] kj4 (fun kq v0 v9 w' => ∃ (x0_2 : List (S30)) (x9_2 : Int), v9 = .int .i64 x9_2 ∧ Aside0 (hurdlelaw12_CodeSound.l0 kq x0_2 l1 x9_2 a2_0 a2_1 a2_2 a3_0 a3_1 a3_2 a3_3 = some r) ∧ Aside0 (kq ≤ kj4) ∧ Aside0 (Kd.V k30 30 w' w.heap.size (fun k_ => (P0_ k_ ∨ w.heap.size ≤ k_) ∧ k_ ≠ gb344 ∧ k_ ≠ gb345) v0 x0_2) ∧ Aside0 (w'.heap[gb344]? = some (.cells (arC [.int .u32 a2_0, .int .u32 a2_1] .u32 16 a2_2) 47 (0, 0))) ∧ Aside0 (w'.heap[gb345]? = some (.cells (arC [.int .u32 a3_0, .int .u32 a3_1, .int .u64 a3_2] .u64 6 a3_3) 51 (0, 0))) ∧ Aside0 (Below w.heap.size w w'))
    case atStart => exact ⟨(l0), (0), jS, H', ⟨Nat.le_refl _⟩, ⟨jV HO_0⟩, ⟨jK BK344⟩, ⟨jK BK345⟩, ⟨jH HB⟩⟩
    case round =>
     clear H'
     obtain ⟨x0_2, x9_2, rfl, HA, HK2, HO_0, BK344, BK345, HB⟩ := hrel
     cases gk with
     | zero => exact absurd HA.out (by simp [hurdlelaw12_CodeSound.l0])
     | succ k2 =>
      have H := HA.out
      clear HA
      simp only [hurdlelaw12_CodeSound.l0] at H
      have HC14 := Aside0.mk H
      clear H
      go_upto_region 4 with (fail)
      go_cut [35] (fun v35 wc => ∃ (kq : Nat) (x35_13 : Bool), v35 = .bool x35_13 ∧ Aside0 (hurdlelaw12_CodeSound.j2 kq x0_2 l1 x9_2 x35_13 a2_0 a2_1 a2_2 a3_0 a3_1 a3_2 a3_3 = some r) ∧ Aside0 (kq ≤ k2) ∧ Aside0 (Kd.V k30 30 wc w.heap.size (fun k_ => (P0_ k_ ∨ w.heap.size ≤ k_) ∧ k_ ≠ gb344 ∧ k_ ≠ gb345) u0 x0_2) ∧ Aside0 (wc.heap[gb344]? = some (.cells (arC [.int .u32 a2_0, .int .u32 a2_1] .u32 16 a2_2) 47 (0, 0))) ∧ Aside0 (wc.heap[gb345]? = some (.cells (arC [.int .u32 a3_0, .int .u32 a3_1, .int .u64 a3_2] .u64 6 a3_3) 51 (0, 0))) ∧ Aside0 (Below w.heap.size w wc))
      case first =>
       have H := HC14.out
       clear HC14
       by_cases c15 : x9_2 < (l1.length : Int)
       ·rw [if_pos c15] at H
        have c15b0 : decide (x9_2 < (l1.length : Int)) = true := dT c15
        clear c15
        (first | rw [c15b0] | (simp only [i64_w, i32_w]; rw [c15b0]) | skip)
        have H' := Aside0.mk H
        clear H
        go_wp2
        go_meet
        case rel => exact ⟨_, (decide (x9_2 < 20)), jS, H', ⟨by have := HJ4.out; have := HK2.out; first | omega | exact Nat.le_refl _⟩, ⟨jV HO_0⟩, ⟨jK BK344⟩, ⟨jK BK345⟩, ⟨jH HB⟩⟩
       ·rw [if_neg c15] at H
        have c15b0 : decide (x9_2 < (l1.length : Int)) = false := dF c15
        clear c15
        (first | rw [c15b0] | (simp only [i64_w, i32_w]; rw [c15b0]) | skip)
        have H' := Aside0.mk H
        clear H
        go_wp2
        go_meet
        case rel => exact ⟨_, (false), jS, H', ⟨by have := HJ4.out; have := HK2.out; first | omega | exact Nat.le_refl _⟩, ⟨jV HO_0⟩, ⟨jK BK344⟩, ⟨jK BK345⟩, ⟨jH HB⟩⟩
      case rest =>
       clear HC14
       obtain ⟨kq, x35_13, rfl, HA, HJ13, HO_0, BK344, BK345, HB⟩ := hcut
       cases kq with
       | zero => exact absurd HA.out (by simp [hurdlelaw12_CodeSound.j2])
       | succ kj13 =>
        have H := HA.out
        clear HA
        simp only [hurdlelaw12_CodeSound.j2] at H
        by_cases c16 : x35_13 = true
        ·subst c16
         rw [if_pos rfl] at H
         by_cases c17 : 0 ≤ x9_2
         ·rw [if_pos c17] at H
          have c17b0 : decide (0 ≤ x9_2) = true := dT c17
          clear c17
          by_cases c18 : x9_2 < (l1.length : Int)
          ·rw [if_pos c18] at H
           have c18b0 : decide (x9_2 < (l1.length : Int)) = true := dT c18
           clear c18
           have HC19 := Aside0.mk H
           clear H
           have p348 : 0 ≤ (x9_2 : Int) := oD (jA)
           have q348 : x9_2 < (l1.length : Int) := oD (jA)
           obtain ⟨ad348, e348, hx348_0, hx348_1, hx348_2, hx348_3, hx348_4, hx348_5, hx348_6⟩ := at_T33 HR1.out x9_2 p348 q348
           cases e348
           replace hx348_0 := (HB.out.cell (bL w _ hx348_0)).trans hx348_0
           replace hx348_1 := (HB.out.cell (bL w _ hx348_1)).trans hx348_1
           replace hx348_2 := (HB.out.cell (bL w _ hx348_2)).trans hx348_2
           replace hx348_3 := (HB.out.cell (bL w _ hx348_3)).trans hx348_3
           replace hx348_4 := (HB.out.cell (bL w _ hx348_4)).trans hx348_4
           replace hx348_5 := (HB.out.cell (bL w _ hx348_5)).trans hx348_5
           replace hx348_6 := (HB.out.cell (bL w _ hx348_6)).trans hx348_6
           replace p348 := eq_true p348
           replace q348 := eq_true q348
           go_upto_region 7 with (first | ((with_reducible refine gate_dst (N := 10) rfl ?_); (try (refine gate_guard (by rfl) ?_; dsimp only)); refine box_event ?hg (N := 10) ?hd (cs := #[.int .i64 0, .int .i64 0, .int .i64 0, .int .i64 0, .int .u32 0, .int .u16 0, .int .u16 0]) (t := 33) ?hr ?_; (case hd => rfl); (case hg => rfl); (case hr => first | (go_simp; done) | (go_simp; rfl)); intro gb349 hg w20 hbox hb; have n0_ := Aside0.mk (Kd.V_below (Kd.V_elderB (jV HO_0) gb349 (Nat.le_of_eq hg.symm)) hb); have n1_ := Aside0.mk (jB BK344 hb); have n2_ := Aside0.mk (jB BK345 hb); have n3_ := Aside0.mk (zT (jH HB) hb); have n4_ := Aside0.mk (hbox); have n5_ := Aside0.mk ((by rw [hg]; exact (zZ (jH HB)) : w.heap.size ≤ gb349)); have n6_ := Aside0.mk ((by rw [hg]; exact (zZ (jH HB)) : w.heap.size ≤ gb349)); have n7_ := Aside0.mk ((by rw [hg]; exact Nat.ne_of_lt (jL BK344) : gb344 ≠ gb349)); have n8_ := Aside0.mk ((by rw [hg]; exact Nat.ne_of_gt (jL BK344) : gb349 ≠ gb344)); have n9_ := Aside0.mk ((by rw [hg]; exact Nat.ne_of_lt (jL BK345) : gb345 ≠ gb349)); have n10_ := Aside0.mk ((by rw [hg]; exact Nat.ne_of_gt (jL BK345) : gb349 ≠ gb345)); clear HO_0; clear BK344; clear BK345; clear HB; have HO_0 := n0_; have BK344 := n1_; have BK345 := n2_; have HB := n3_; have BK349 := n4_; have GW349 := n5_; have GE349 := n6_; have NB344_349 := n7_; have NB349_344 := n8_; have NB345_349 := n9_; have NB349_345 := n10_; clear n0_ n1_ n2_ n3_ n4_ n5_ n6_ n7_ n8_ n9_ n10_; clear hb hbox hg; have hnb21 := NB349_344.out; have hnc21 := NB344_349.out; have hnb22 := NB349_345.out; have hnc22 := NB345_349.out; have hcz23_0 : w20.cell? ⟨gb349, 0, none⟩ = some (.int .i64 0) := (kC BK349.out 0).trans rfl; have hcz23_1 : w20.cell? ⟨gb349, 1, none⟩ = some (.int .i64 0) := (kC BK349.out 1).trans rfl; have hcz23_2 : w20.cell? ⟨gb349, 2, none⟩ = some (.int .i64 0) := (kC BK349.out 2).trans rfl; have hcz23_3 : w20.cell? ⟨gb349, 3, none⟩ = some (.int .i64 0) := (kC BK349.out 3).trans rfl; have hcz23_4 : w20.cell? ⟨gb349, 4, none⟩ = some (.int .u32 0) := (kC BK349.out 4).trans rfl; have hcz23_5 : w20.cell? ⟨gb349, 5, none⟩ = some (.int .u16 0) := (kC BK349.out 5).trans rfl; have hcz23_6 : w20.cell? ⟨gb349, 6, none⟩ = some (.int .u16 0) := (kC BK349.out 6).trans rfl; have hfz23_0 := kF BK349.out 0; have hfz23_1 := kF BK349.out 1; have hfz23_2 := kF BK349.out 2; have hfz23_3 := kF BK349.out 3; have hfz23_4 := kF BK349.out 4; have hfz23_5 := kF BK349.out 5; have hfz23_6 := kF BK349.out 6))
           (try simp only [Act.put, List.setIfInBounds_toArray, List.set_cons_zero, List.set_cons_succ])
           go_cut [50] (fun v50 wc => ∃ (kq : Nat) (x50_18 : Bool), v50 = .bool x50_18 ∧ Aside0 (hurdlelaw12_CodeSound.j3 kq x0_2 l1 x9_2 x50_18 a2_0 a2_1 a2_2 a3_0 a3_1 a3_2 a3_3 ((rd_T33 l1 x9_2).f0) ((rd_T33 l1 x9_2).f1.f0) ((rd_T33 l1 x9_2).f1.f1) ((rd_T33 l1 x9_2).f1.f2) ((rd_T33 l1 x9_2).f1.f3) ((rd_T33 l1 x9_2).f2) ((rd_T33 l1 x9_2).f3) = some r) ∧ Aside0 (kq ≤ kj13) ∧ Aside0 (Kd.V k30 30 wc w.heap.size (fun k_ => (P0_ k_ ∨ w.heap.size ≤ k_) ∧ k_ ≠ gb344 ∧ k_ ≠ gb345 ∧ k_ ≠ gb349) u0 x0_2) ∧ Aside0 (wc.heap[gb344]? = some (.cells (arC [.int .u32 a2_0, .int .u32 a2_1] .u32 16 a2_2) 47 (0, 0))) ∧ Aside0 (wc.heap[gb345]? = some (.cells (arC [.int .u32 a3_0, .int .u32 a3_1, .int .u64 a3_2] .u64 6 a3_3) 51 (0, 0))) ∧ Aside0 (wc.heap[gb349]? = some (.cells #[.int .i64 ((rd_T33 l1 x9_2).f0), .int .i64 ((rd_T33 l1 x9_2).f1.f0), .int .i64 ((rd_T33 l1 x9_2).f1.f1), .int .i64 ((rd_T33 l1 x9_2).f1.f2), .int .u32 ((rd_T33 l1 x9_2).f1.f3), .int .u16 ((rd_T33 l1 x9_2).f2), .int .u16 ((rd_T33 l1 x9_2).f3)] 33 (0, 0))) ∧ Aside0 (Below w.heap.size w wc))
           case first =>
            have H := HC19.out
            clear HC19
            by_cases c24 : ((rd_T33 l1 x9_2).f0) = 0
            ·rw [if_pos c24] at H
             have c24b0 : (((rd_T33 l1 x9_2).f0) == 0) = true := bI.mpr c24
             have c24b1 : (((rd_T33 l1 x9_2).f0) != 0) = false := nF.mpr c24
             clear c24
             (first | rw [c24b0] | (simp only [i64_w, i32_w]; rw [c24b0]) | skip)
             replace H := Option.bind_eq_some_iff.mp H
             obtain ⟨t350, A250, H⟩ := H
             try dsimp only at H
             have A25 := Aside0.mk A250
             clear A250
             have H' := Aside0.mk H
             clear H
             have hnb26 := NB349_344.out
             have hnc26 := NB344_349.out
             have hnb27 := NB349_345.out
             have hnc27 := NB345_349.out
             have hcz28_0 : w20.cell? ⟨gb349, 0, none⟩ = some (.int .i64 0) := (kC BK349.out 0).trans rfl
             have hcz28_1 : w20.cell? ⟨gb349, 1, none⟩ = some (.int .i64 0) := (kC BK349.out 1).trans rfl
             have hcz28_2 : w20.cell? ⟨gb349, 2, none⟩ = some (.int .i64 0) := (kC BK349.out 2).trans rfl
             have hcz28_3 : w20.cell? ⟨gb349, 3, none⟩ = some (.int .i64 0) := (kC BK349.out 3).trans rfl
             have hcz28_4 : w20.cell? ⟨gb349, 4, none⟩ = some (.int .u32 0) := (kC BK349.out 4).trans rfl
             have hcz28_5 : w20.cell? ⟨gb349, 5, none⟩ = some (.int .u16 0) := (kC BK349.out 5).trans rfl
             have hcz28_6 : w20.cell? ⟨gb349, 6, none⟩ = some (.int .u16 0) := (kC BK349.out 6).trans rfl
             have hfz28_0 := kF BK349.out 0
             have hfz28_1 := kF BK349.out 1
             have hfz28_2 := kF BK349.out 2
             have hfz28_3 := kF BK349.out 3
             have hfz28_4 := kF BK349.out 4
             have hfz28_5 := kF BK349.out 5
             have hfz28_6 := kF BK349.out 6
             go_wp2_with (first | (go_at_call 18; (with_reducible refine (hurdleref05_One.calls kj13 ((rd_T33 l1 x9_2).f1.f0) ((rd_T33 l1 x9_2).f1.f1) ((rd_T33 l1 x9_2).f1.f2) ((rd_T33 l1 x9_2).f1.f3) 0 2 t350 _ A25.out).mono ?_); rintro e w29 ⟨rfl, hb⟩; have n0_ := Aside0.mk (Kd.V_below (by (with_reducible repeat (first | apply Kd.V_alloc | apply Kd.V_drewN | apply Kd.V_drew)); exact (Kd.V_mono (Kd.V_far (p := ⟨gb349, 6, none⟩) (Kd.V_far (p := ⟨gb349, 5, none⟩) (Kd.V_far (p := ⟨gb349, 4, none⟩) (Kd.V_far (p := ⟨gb349, 3, none⟩) (Kd.V_far (p := ⟨gb349, 2, none⟩) (Kd.V_far (p := ⟨gb349, 1, none⟩) (Kd.V_far (p := ⟨gb349, 0, none⟩) (Kd.V_mono HO_0.out (fun k_ hk => (⟨hk, hk.2⟩ : _ ∧ k_ ≠ gb349))) (fun _ hk => hk.2) (.int .i64 ((rd_T33 l1 x9_2).f0))) (fun _ hk => hk.2) (.int .i64 ((rd_T33 l1 x9_2).f1.f0))) (fun _ hk => hk.2) (.int .i64 ((rd_T33 l1 x9_2).f1.f1))) (fun _ hk => hk.2) (.int .i64 ((rd_T33 l1 x9_2).f1.f2))) (fun _ hk => hk.2) (.int .u32 ((rd_T33 l1 x9_2).f1.f3))) (fun _ hk => hk.2) (.int .u16 ((rd_T33 l1 x9_2).f2))) (fun _ hk => hk.2) (.int .u16 ((rd_T33 l1 x9_2).f3))) (fun _ h_ => h_.1))) hb); have n1_ := Aside0.mk (kB (g := gb344) (o := .cells (arC [.int .u32 a2_0, .int .u32 a2_1] .u32 16 a2_2) 47 (0, 0)) (by (with_reducible repeat (first | refine kN ?_ _ | refine kD ?_ | refine kA ?_ _)); refine kR ?_ NB344_349.out _; (with_reducible repeat (first | refine kN ?_ _ | refine kD ?_ | refine kA ?_ _)); refine kR ?_ NB344_349.out _; (with_reducible repeat (first | refine kN ?_ _ | refine kD ?_ | refine kA ?_ _)); refine kR ?_ NB344_349.out _; (with_reducible repeat (first | refine kN ?_ _ | refine kD ?_ | refine kA ?_ _)); refine kR ?_ NB344_349.out _; (with_reducible repeat (first | refine kN ?_ _ | refine kD ?_ | refine kA ?_ _)); refine kR ?_ NB344_349.out _; (with_reducible repeat (first | refine kN ?_ _ | refine kD ?_ | refine kA ?_ _)); refine kR ?_ NB344_349.out _; (with_reducible repeat (first | refine kN ?_ _ | refine kD ?_ | refine kA ?_ _)); refine kR ?_ NB344_349.out _; (with_reducible repeat (first | refine kN ?_ _ | refine kD ?_ | refine kA ?_ _)); exact BK344.out) hb); have n2_ := Aside0.mk (kB (g := gb345) (o := .cells (arC [.int .u32 a3_0, .int .u32 a3_1, .int .u64 a3_2] .u64 6 a3_3) 51 (0, 0)) (by (with_reducible repeat (first | refine kN ?_ _ | refine kD ?_ | refine kA ?_ _)); refine kR ?_ NB345_349.out _; (with_reducible repeat (first | refine kN ?_ _ | refine kD ?_ | refine kA ?_ _)); refine kR ?_ NB345_349.out _; (with_reducible repeat (first | refine kN ?_ _ | refine kD ?_ | refine kA ?_ _)); refine kR ?_ NB345_349.out _; (with_reducible repeat (first | refine kN ?_ _ | refine kD ?_ | refine kA ?_ _)); refine kR ?_ NB345_349.out _; (with_reducible repeat (first | refine kN ?_ _ | refine kD ?_ | refine kA ?_ _)); refine kR ?_ NB345_349.out _; (with_reducible repeat (first | refine kN ?_ _ | refine kD ?_ | refine kA ?_ _)); refine kR ?_ NB345_349.out _; (with_reducible repeat (first | refine kN ?_ _ | refine kD ?_ | refine kA ?_ _)); refine kR ?_ NB345_349.out _; (with_reducible repeat (first | refine kN ?_ _ | refine kD ?_ | refine kA ?_ _)); exact BK345.out) hb); have n3_ := Aside0.mk (kB (g := gb349) (o := .cells #[.int .i64 ((rd_T33 l1 x9_2).f0), .int .i64 ((rd_T33 l1 x9_2).f1.f0), .int .i64 ((rd_T33 l1 x9_2).f1.f1), .int .i64 ((rd_T33 l1 x9_2).f1.f2), .int .u32 ((rd_T33 l1 x9_2).f1.f3), .int .u16 ((rd_T33 l1 x9_2).f2), .int .u16 ((rd_T33 l1 x9_2).f3)] 33 (0, 0)) (by (with_reducible repeat (first | refine kN ?_ _ | refine kD ?_ | refine kA ?_ _)); refine kP (cs := #[.int .i64 ((rd_T33 l1 x9_2).f0), .int .i64 ((rd_T33 l1 x9_2).f1.f0), .int .i64 ((rd_T33 l1 x9_2).f1.f1), .int .i64 ((rd_T33 l1 x9_2).f1.f2), .int .u32 ((rd_T33 l1 x9_2).f1.f3), .int .u16 ((rd_T33 l1 x9_2).f2), .int .u16 0]) ?_ 6 _ rfl; (with_reducible repeat (first | refine kN ?_ _ | refine kD ?_ | refine kA ?_ _)); refine kP (cs := #[.int .i64 ((rd_T33 l1 x9_2).f0), .int .i64 ((rd_T33 l1 x9_2).f1.f0), .int .i64 ((rd_T33 l1 x9_2).f1.f1), .int .i64 ((rd_T33 l1 x9_2).f1.f2), .int .u32 ((rd_T33 l1 x9_2).f1.f3), .int .u16 0, .int .u16 0]) ?_ 5 _ rfl; (with_reducible repeat (first | refine kN ?_ _ | refine kD ?_ | refine kA ?_ _)); refine kP (cs := #[.int .i64 ((rd_T33 l1 x9_2).f0), .int .i64 ((rd_T33 l1 x9_2).f1.f0), .int .i64 ((rd_T33 l1 x9_2).f1.f1), .int .i64 ((rd_T33 l1 x9_2).f1.f2), .int .u32 0, .int .u16 0, .int .u16 0]) ?_ 4 _ rfl; (with_reducible repeat (first | refine kN ?_ _ | refine kD ?_ | refine kA ?_ _)); refine kP (cs := #[.int .i64 ((rd_T33 l1 x9_2).f0), .int .i64 ((rd_T33 l1 x9_2).f1.f0), .int .i64 ((rd_T33 l1 x9_2).f1.f1), .int .i64 0, .int .u32 0, .int .u16 0, .int .u16 0]) ?_ 3 _ rfl; (with_reducible repeat (first | refine kN ?_ _ | refine kD ?_ | refine kA ?_ _)); refine kP (cs := #[.int .i64 ((rd_T33 l1 x9_2).f0), .int .i64 ((rd_T33 l1 x9_2).f1.f0), .int .i64 0, .int .i64 0, .int .u32 0, .int .u16 0, .int .u16 0]) ?_ 2 _ rfl; (with_reducible repeat (first | refine kN ?_ _ | refine kD ?_ | refine kA ?_ _)); refine kP (cs := #[.int .i64 ((rd_T33 l1 x9_2).f0), .int .i64 0, .int .i64 0, .int .i64 0, .int .u32 0, .int .u16 0, .int .u16 0]) ?_ 1 _ rfl; (with_reducible repeat (first | refine kN ?_ _ | refine kD ?_ | refine kA ?_ _)); refine kP (cs := #[.int .i64 0, .int .i64 0, .int .i64 0, .int .i64 0, .int .u32 0, .int .u16 0, .int .u16 0]) ?_ 0 _ rfl; (with_reducible repeat (first | refine kN ?_ _ | refine kD ?_ | refine kA ?_ _)); exact BK349.out) hb); have n4_ := Aside0.mk (zT (jH HB) hb); clear HO_0; clear BK344; clear BK345; clear BK349; clear HB; have HO_0 := n0_; have BK344 := n1_; have BK345 := n2_; have BK349 := n3_; have HB := n4_; clear n0_ n1_ n2_ n3_ n4_; (try clear hb); (try clear hb2); (try clear hk); (try clear hi)))
             go_meet
             case rel => exact ⟨_, ((t350 != 0)), jS, H', ⟨by have := HJ4.out; have := HK2.out; have := HJ13.out; first | omega | exact Nat.le_refl _⟩, ⟨by (with_reducible repeat (first | apply Kd.V_alloc | apply Kd.V_drewN | apply Kd.V_drew)); exact Kd.V_mono HO_0.out (fun _ hk => ⟨hk.1.1, ⟨hk.1.2.1, ⟨hk.1.2.2, hk.2⟩⟩⟩)⟩, ⟨jK BK344⟩, ⟨jK BK345⟩, ⟨jK BK349⟩, ⟨jH HB⟩⟩
            ·rw [if_neg c24] at H
             have c24b0 : (((rd_T33 l1 x9_2).f0) == 0) = false := bF.mpr c24
             have c24b1 : (((rd_T33 l1 x9_2).f0) != 0) = true := nI.mpr c24
             (first | rw [c24b0] | (simp only [i64_w, i32_w]; rw [c24b0]) | skip)
             have H' := Aside0.mk H
             clear H
             have hnb30 := NB349_344.out
             have hnc30 := NB344_349.out
             have hnb31 := NB349_345.out
             have hnc31 := NB345_349.out
             have hcz32_0 : w20.cell? ⟨gb349, 0, none⟩ = some (.int .i64 0) := (kC BK349.out 0).trans rfl
             have hcz32_1 : w20.cell? ⟨gb349, 1, none⟩ = some (.int .i64 0) := (kC BK349.out 1).trans rfl
             have hcz32_2 : w20.cell? ⟨gb349, 2, none⟩ = some (.int .i64 0) := (kC BK349.out 2).trans rfl
             have hcz32_3 : w20.cell? ⟨gb349, 3, none⟩ = some (.int .i64 0) := (kC BK349.out 3).trans rfl
             have hcz32_4 : w20.cell? ⟨gb349, 4, none⟩ = some (.int .u32 0) := (kC BK349.out 4).trans rfl
             have hcz32_5 : w20.cell? ⟨gb349, 5, none⟩ = some (.int .u16 0) := (kC BK349.out 5).trans rfl
             have hcz32_6 : w20.cell? ⟨gb349, 6, none⟩ = some (.int .u16 0) := (kC BK349.out 6).trans rfl
             have hfz32_0 := kF BK349.out 0
             have hfz32_1 := kF BK349.out 1
             have hfz32_2 := kF BK349.out 2
             have hfz32_3 := kF BK349.out 3
             have hfz32_4 := kF BK349.out 4
             have hfz32_5 := kF BK349.out 5
             have hfz32_6 := kF BK349.out 6
             go_wp2
             go_meet
             case rel => exact ⟨_, (false), jS, H', ⟨by have := HJ4.out; have := HK2.out; have := HJ13.out; first | omega | exact Nat.le_refl _⟩, ⟨by (with_reducible repeat (first | apply Kd.V_alloc | apply Kd.V_drewN | apply Kd.V_drew)); exact Kd.V_mono (Kd.V_far (p := ⟨gb349, 6, none⟩) (Kd.V_far (p := ⟨gb349, 5, none⟩) (Kd.V_far (p := ⟨gb349, 4, none⟩) (Kd.V_far (p := ⟨gb349, 3, none⟩) (Kd.V_far (p := ⟨gb349, 2, none⟩) (Kd.V_far (p := ⟨gb349, 1, none⟩) (Kd.V_far (p := ⟨gb349, 0, none⟩) (Kd.V_mono HO_0.out (fun k_ hk => (⟨hk, hk.2⟩ : _ ∧ k_ ≠ gb349))) (fun _ hk => hk.2) (.int .i64 ((rd_T33 l1 x9_2).f0))) (fun _ hk => hk.2) (.int .i64 ((rd_T33 l1 x9_2).f1.f0))) (fun _ hk => hk.2) (.int .i64 ((rd_T33 l1 x9_2).f1.f1))) (fun _ hk => hk.2) (.int .i64 ((rd_T33 l1 x9_2).f1.f2))) (fun _ hk => hk.2) (.int .u32 ((rd_T33 l1 x9_2).f1.f3))) (fun _ hk => hk.2) (.int .u16 ((rd_T33 l1 x9_2).f2))) (fun _ hk => hk.2) (.int .u16 ((rd_T33 l1 x9_2).f3))) (fun _ hk => ⟨hk.1.1.1, ⟨hk.1.1.2.1, ⟨hk.1.1.2.2, hk.1.2⟩⟩⟩)⟩, ⟨by (with_reducible repeat (first | refine kN ?_ _ | refine kD ?_ | refine kA ?_ _)); refine kR ?_ NB344_349.out _; (with_reducible repeat (first | refine kN ?_ _ | refine kD ?_ | refine kA ?_ _)); refine kR ?_ NB344_349.out _; (with_reducible repeat (first | refine kN ?_ _ | refine kD ?_ | refine kA ?_ _)); refine kR ?_ NB344_349.out _; (with_reducible repeat (first | refine kN ?_ _ | refine kD ?_ | refine kA ?_ _)); refine kR ?_ NB344_349.out _; (with_reducible repeat (first | refine kN ?_ _ | refine kD ?_ | refine kA ?_ _)); refine kR ?_ NB344_349.out _; (with_reducible repeat (first | refine kN ?_ _ | refine kD ?_ | refine kA ?_ _)); refine kR ?_ NB344_349.out _; (with_reducible repeat (first | refine kN ?_ _ | refine kD ?_ | refine kA ?_ _)); refine kR ?_ NB344_349.out _; (with_reducible repeat (first | refine kN ?_ _ | refine kD ?_ | refine kA ?_ _)); exact BK344.out⟩, ⟨by (with_reducible repeat (first | refine kN ?_ _ | refine kD ?_ | refine kA ?_ _)); refine kR ?_ NB345_349.out _; (with_reducible repeat (first | refine kN ?_ _ | refine kD ?_ | refine kA ?_ _)); refine kR ?_ NB345_349.out _; (with_reducible repeat (first | refine kN ?_ _ | refine kD ?_ | refine kA ?_ _)); refine kR ?_ NB345_349.out _; (with_reducible repeat (first | refine kN ?_ _ | refine kD ?_ | refine kA ?_ _)); refine kR ?_ NB345_349.out _; (with_reducible repeat (first | refine kN ?_ _ | refine kD ?_ | refine kA ?_ _)); refine kR ?_ NB345_349.out _; (with_reducible repeat (first | refine kN ?_ _ | refine kD ?_ | refine kA ?_ _)); refine kR ?_ NB345_349.out _; (with_reducible repeat (first | refine kN ?_ _ | refine kD ?_ | refine kA ?_ _)); refine kR ?_ NB345_349.out _; (with_reducible repeat (first | refine kN ?_ _ | refine kD ?_ | refine kA ?_ _)); exact BK345.out⟩, ⟨by (with_reducible repeat (first | refine kN ?_ _ | refine kD ?_ | refine kA ?_ _)); refine kP (cs := #[.int .i64 ((rd_T33 l1 x9_2).f0), .int .i64 ((rd_T33 l1 x9_2).f1.f0), .int .i64 ((rd_T33 l1 x9_2).f1.f1), .int .i64 ((rd_T33 l1 x9_2).f1.f2), .int .u32 ((rd_T33 l1 x9_2).f1.f3), .int .u16 ((rd_T33 l1 x9_2).f2), .int .u16 0]) ?_ 6 _ rfl; (with_reducible repeat (first | refine kN ?_ _ | refine kD ?_ | refine kA ?_ _)); refine kP (cs := #[.int .i64 ((rd_T33 l1 x9_2).f0), .int .i64 ((rd_T33 l1 x9_2).f1.f0), .int .i64 ((rd_T33 l1 x9_2).f1.f1), .int .i64 ((rd_T33 l1 x9_2).f1.f2), .int .u32 ((rd_T33 l1 x9_2).f1.f3), .int .u16 0, .int .u16 0]) ?_ 5 _ rfl; (with_reducible repeat (first | refine kN ?_ _ | refine kD ?_ | refine kA ?_ _)); refine kP (cs := #[.int .i64 ((rd_T33 l1 x9_2).f0), .int .i64 ((rd_T33 l1 x9_2).f1.f0), .int .i64 ((rd_T33 l1 x9_2).f1.f1), .int .i64 ((rd_T33 l1 x9_2).f1.f2), .int .u32 0, .int .u16 0, .int .u16 0]) ?_ 4 _ rfl; (with_reducible repeat (first | refine kN ?_ _ | refine kD ?_ | refine kA ?_ _)); refine kP (cs := #[.int .i64 ((rd_T33 l1 x9_2).f0), .int .i64 ((rd_T33 l1 x9_2).f1.f0), .int .i64 ((rd_T33 l1 x9_2).f1.f1), .int .i64 0, .int .u32 0, .int .u16 0, .int .u16 0]) ?_ 3 _ rfl; (with_reducible repeat (first | refine kN ?_ _ | refine kD ?_ | refine kA ?_ _)); refine kP (cs := #[.int .i64 ((rd_T33 l1 x9_2).f0), .int .i64 ((rd_T33 l1 x9_2).f1.f0), .int .i64 0, .int .i64 0, .int .u32 0, .int .u16 0, .int .u16 0]) ?_ 2 _ rfl; (with_reducible repeat (first | refine kN ?_ _ | refine kD ?_ | refine kA ?_ _)); refine kP (cs := #[.int .i64 ((rd_T33 l1 x9_2).f0), .int .i64 0, .int .i64 0, .int .i64 0, .int .u32 0, .int .u16 0, .int .u16 0]) ?_ 1 _ rfl; (with_reducible repeat (first | refine kN ?_ _ | refine kD ?_ | refine kA ?_ _)); refine kP (cs := #[.int .i64 0, .int .i64 0, .int .i64 0, .int .i64 0, .int .u32 0, .int .u16 0, .int .u16 0]) ?_ 0 _ rfl; (with_reducible repeat (first | refine kN ?_ _ | refine kD ?_ | refine kA ?_ _)); exact BK349.out⟩, ⟨jH HB⟩⟩
           case rest =>
            clear HC19
            obtain ⟨kq, x50_18, rfl, HA, HJ18, HO_0, BK344, BK345, BK349, HB⟩ := hcut
            cases kq with
            | zero => exact absurd HA.out (by simp [hurdlelaw12_CodeSound.j3])
            | succ kj18 =>
             have H := HA.out
             clear HA
             simp only [hurdlelaw12_CodeSound.j3] at H
             by_cases c33 : x50_18 = true
             ·subst c33
              rw [if_pos rfl] at H
              have H' := Aside0.mk H
              clear H
              go_wp2
              go_roundg kj18
              case measure => have := HJ4.out; have := HK2.out; have := HJ13.out; have := HJ18.out; omega
              case rel => exact ⟨(x0_2), (wrap64 (x9_2 + 1)), jS, H', ⟨by have := HJ4.out; have := HK2.out; have := HJ13.out; have := HJ18.out; omega⟩, ⟨by (with_reducible repeat (first | apply Kd.V_alloc | apply Kd.V_drewN | apply Kd.V_drew)); exact Kd.V_mono HO_0.out (fun _ hk => ⟨hk.1, ⟨hk.2.1, hk.2.2.1⟩⟩)⟩, ⟨jK BK344⟩, ⟨jK BK345⟩, ⟨jH HB⟩⟩
             ·replace c33 := Bool.eq_false_iff.mpr c33
              subst c33
              rw [if_neg (show ¬ (false = true) by decide)] at H
              replace H := Option.bind_eq_some_iff.mp H
              obtain ⟨⟨t351, t354, t355⟩, A340, H⟩ := H
              try dsimp only at H
              have A34 := Aside0.mk A340
              clear A340
              by_cases c35 : t355 = 0
              ·rw [if_pos c35] at H
               have c35b0 : (t355 == 0) = true := bI.mpr c35
               have c35b1 : (t355 != 0) = false := nF.mpr c35
               clear c35
               have HC36 := Aside0.mk H
               clear H
               have hnb37 := NB349_344.out
               have hnc37 := NB344_349.out
               have hnb38 := NB349_345.out
               have hnc38 := NB345_349.out
               have hcz39_0 : wc.cell? ⟨gb349, 0, none⟩ = some (.int .i64 ((rd_T33 l1 x9_2).f0)) := (kC BK349.out 0).trans rfl
               have hcz39_1 : wc.cell? ⟨gb349, 1, none⟩ = some (.int .i64 ((rd_T33 l1 x9_2).f1.f0)) := (kC BK349.out 1).trans rfl
               have hcz39_2 : wc.cell? ⟨gb349, 2, none⟩ = some (.int .i64 ((rd_T33 l1 x9_2).f1.f1)) := (kC BK349.out 2).trans rfl
               have hcz39_3 : wc.cell? ⟨gb349, 3, none⟩ = some (.int .i64 ((rd_T33 l1 x9_2).f1.f2)) := (kC BK349.out 3).trans rfl
               have hcz39_4 : wc.cell? ⟨gb349, 4, none⟩ = some (.int .u32 ((rd_T33 l1 x9_2).f1.f3)) := (kC BK349.out 4).trans rfl
               have hcz39_5 : wc.cell? ⟨gb349, 5, none⟩ = some (.int .u16 ((rd_T33 l1 x9_2).f2)) := (kC BK349.out 5).trans rfl
               have hcz39_6 : wc.cell? ⟨gb349, 6, none⟩ = some (.int .u16 ((rd_T33 l1 x9_2).f3)) := (kC BK349.out 6).trans rfl
               have hfz39_0 := kF BK349.out 0
               have hfz39_1 := kF BK349.out 1
               have hfz39_2 := kF BK349.out 2
               have hfz39_3 := kF BK349.out 3
               have hfz39_4 := kF BK349.out 4
               have hfz39_5 := kF BK349.out 5
               have hfz39_6 := kF BK349.out 6
               obtain ⟨Ao40, co40, eo40⟩ := Kd.V_slice HO_0.out
               subst eo40
               go_upto_region 10 with (first | ((with_reducible refine gate_callee (f := 9) rfl ?_); refine goesL_ (some 54) rfl rfl Tryd.func9 (by kernel_rfl) rfl #[.slice Ao40 x0_2.length co40, .agg #[.int .i64 ((rd_T33 l1 x9_2).f0), .int .i64 ((rd_T33 l1 x9_2).f1.f0), .int .i64 ((rd_T33 l1 x9_2).f1.f1), .int .i64 ((rd_T33 l1 x9_2).f1.f2), .int .u32 ((rd_T33 l1 x9_2).f1.f3), .int .u16 ((rd_T33 l1 x9_2).f2), .int .u16 ((rd_T33 l1 x9_2).f3)]] rfl jZ ?_; (with_reducible refine (hurdlelaw12_Do.calls kj18 (fun k_ => ((P0_ k_ ∨ w.heap.size ≤ k_) ∧ (k_ ≠ gb344 ∧ (k_ ≠ gb345 ∧ k_ ≠ gb349)))) _ _ x0_2 ((rd_T33 l1 x9_2).f0) ((rd_T33 l1 x9_2).f1.f0) ((rd_T33 l1 x9_2).f1.f1) ((rd_T33 l1 x9_2).f1.f2) ((rd_T33 l1 x9_2).f1.f3) ((rd_T33 l1 x9_2).f2) ((rd_T33 l1 x9_2).f3) t351 t354 t355 _ ?side1 ?side2 A34.out).mono ?_); (case side1 => exact HO_0.out); (case side2 => exact Glob.below HG.out (jH HB)); rintro e w41 ⟨v352, rfl, ho0, hb⟩; refine ⟨_, rfl, ?_⟩; have n0_ := Aside0.mk (Kd.V_below (jV HO_0) hb); have n1_ := Aside0.mk (Kd.V_lower (Kd.V_mono (ok' := fun k_ => (P0_ k_ ∨ w.heap.size ≤ k_) ∧ k_ ≠ gb344 ∧ k_ ≠ gb345 ∧ k_ ≠ gb349) ho0 (fun k_ hk_ => ⟨Or.elim hk_ (fun hs_ => hs_.1) (fun hn_ => (.inr (Nat.le_trans (zZ (jH HB)) hn_))), Or.elim hk_ (fun hs_ => hs_.2.1) (fun hn_ => (Kd.freshB (g := gb344) (o := .cells (arC [.int .u32 a2_0, .int .u32 a2_1] .u32 16 a2_2) 47 (0, 0)) (jK BK344) k_ hn_)), Or.elim hk_ (fun hs_ => hs_.2.2.1) (fun hn_ => (Kd.freshB (g := gb345) (o := .cells (arC [.int .u32 a3_0, .int .u32 a3_1, .int .u64 a3_2] .u64 6 a3_3) 51 (0, 0)) (jK BK345) k_ hn_)), Or.elim hk_ (fun hs_ => hs_.2.2.2) (fun hn_ => (Kd.freshB (g := gb349) (o := .cells #[.int .i64 ((rd_T33 l1 x9_2).f0), .int .i64 ((rd_T33 l1 x9_2).f1.f0), .int .i64 ((rd_T33 l1 x9_2).f1.f1), .int .i64 ((rd_T33 l1 x9_2).f1.f2), .int .u32 ((rd_T33 l1 x9_2).f1.f3), .int .u16 ((rd_T33 l1 x9_2).f2), .int .u16 ((rd_T33 l1 x9_2).f3)] 33 (0, 0)) (jK BK349) k_ hn_))⟩)) (zZ (jH HB))); have n2_ := Aside0.mk (jB BK344 hb); have n3_ := Aside0.mk (jB BK345 hb); have n4_ := Aside0.mk (jB BK349 hb); have n5_ := Aside0.mk (zT (jH HB) hb); clear HO_0; clear BK344; clear BK345; clear BK349; clear HB; have HO_0 := n0_; have HO353 := n1_; have BK344 := n2_; have BK345 := n3_; have BK349 := n4_; have HB := n5_; clear n0_ n1_ n2_ n3_ n4_ n5_; (try clear hb); (try clear hb2); (try clear hk); (try clear hi); (try clear ho0)))
               (try simp only [Act.put, List.setIfInBounds_toArray, List.set_cons_zero, List.set_cons_succ])
               go_cut [72] (fun v72 wc => ∃ (kq : Nat) (x72_35 : Bool), v72 = .bool x72_35 ∧ Aside0 (hurdlelaw12_CodeSound.j4 kq x0_2 l1 x9_2 t351 t354 x72_35 a2_0 a2_1 a2_2 a3_0 a3_1 a3_2 a3_3 ((rd_T33 l1 x9_2).f0) ((rd_T33 l1 x9_2).f1.f0) ((rd_T33 l1 x9_2).f1.f1) ((rd_T33 l1 x9_2).f1.f2) ((rd_T33 l1 x9_2).f1.f3) ((rd_T33 l1 x9_2).f2) ((rd_T33 l1 x9_2).f3) = some r) ∧ Aside0 (kq ≤ kj18) ∧ Aside0 (Kd.V k30 30 wc w.heap.size (fun k_ => (P0_ k_ ∨ w.heap.size ≤ k_) ∧ k_ ≠ gb344 ∧ k_ ≠ gb345 ∧ k_ ≠ gb349) (.slice Ao40 x0_2.length co40) x0_2) ∧ Aside0 (Kd.V k30 30 wc w.heap.size (fun k_ => (P0_ k_ ∨ w.heap.size ≤ k_) ∧ k_ ≠ gb344 ∧ k_ ≠ gb345 ∧ k_ ≠ gb349) v352 t351) ∧ Aside0 (wc.heap[gb344]? = some (.cells (arC [.int .u32 a2_0, .int .u32 a2_1] .u32 16 a2_2) 47 (0, 0))) ∧ Aside0 (wc.heap[gb345]? = some (.cells (arC [.int .u32 a3_0, .int .u32 a3_1, .int .u64 a3_2] .u64 6 a3_3) 51 (0, 0))) ∧ Aside0 (wc.heap[gb349]? = some (.cells #[.int .i64 ((rd_T33 l1 x9_2).f0), .int .i64 ((rd_T33 l1 x9_2).f1.f0), .int .i64 ((rd_T33 l1 x9_2).f1.f1), .int .i64 ((rd_T33 l1 x9_2).f1.f2), .int .u32 ((rd_T33 l1 x9_2).f1.f3), .int .u16 ((rd_T33 l1 x9_2).f2), .int .u16 ((rd_T33 l1 x9_2).f3)] 33 (0, 0))) ∧ Aside0 (Below w.heap.size w wc))
               case first =>
                have H := HC36.out
                clear HC36
                replace H := Option.bind_eq_some_iff.mp H
                obtain ⟨t356, A420, H⟩ := H
                try dsimp only at H
                have A42 := Aside0.mk A420
                clear A420
                by_cases c43 : t356 = true
                ·subst c43
                 rw [if_pos rfl] at H
                 by_cases c44 : t354 < 1
                 ·rw [if_pos c44] at H
                  have c44b0 : decide (t354 < 1) = true := dT c44
                  clear c44
                  (first | rw [c44b0] | (simp only [i64_w, i32_w]; rw [c44b0]) | skip)
                  have H' := Aside0.mk H
                  clear H
                  obtain ⟨Ao45, co45, eo45⟩ := Kd.V_slice HO353.out
                  subst eo45
                  go_wp2_with (first | ((with_reducible refine gate_callee (f := 19) rfl ?_); refine goesL_ (some 61) rfl rfl Tryd.func19 (by kernel_rfl) rfl #[.slice Ao45 t351.length co45] rfl jZ ?_; (with_reducible refine (check_Sound.calls kj18 _ _ t351 true _ ?side1 ?side2 ?side3 A42.out).mono ?_); (case side1 => exact jC (Kd.V_reads' HO353.out).2.2); (case side2 => exact (Kd.V_reads' HO353.out).2.1); (case side3 => exact Glob.below HG.out (jH HB)); rintro e w46 ⟨rfl, hb⟩; refine ⟨_, rfl, ?_⟩; have n0_ := Aside0.mk (Kd.V_below (jV HO_0) hb); have n1_ := Aside0.mk (Kd.V_below (jV HO353) hb); have n2_ := Aside0.mk (jB BK344 hb); have n3_ := Aside0.mk (jB BK345 hb); have n4_ := Aside0.mk (jB BK349 hb); have n5_ := Aside0.mk (zT (jH HB) hb); clear HO_0; clear HO353; clear BK344; clear BK345; clear BK349; clear HB; have HO_0 := n0_; have HO353 := n1_; have BK344 := n2_; have BK345 := n3_; have BK349 := n4_; have HB := n5_; clear n0_ n1_ n2_ n3_ n4_ n5_; (try clear hb); (try clear hb2); (try clear hk); (try clear hi)))
                  go_meet
                  case rel => exact ⟨_, (true), jS, H', ⟨by have := HJ4.out; have := HK2.out; have := HJ13.out; have := HJ18.out; first | omega | exact Nat.le_refl _⟩, ⟨jV HO_0⟩, ⟨jV HO353⟩, ⟨jK BK344⟩, ⟨jK BK345⟩, ⟨jK BK349⟩, ⟨jH HB⟩⟩
                 ·rw [if_neg c44] at H
                  have c44b0 : decide (t354 < 1) = false := dF c44
                  clear c44
                  (first | rw [c44b0] | (simp only [i64_w, i32_w]; rw [c44b0]) | skip)
                  have H' := Aside0.mk H
                  clear H
                  obtain ⟨Ao47, co47, eo47⟩ := Kd.V_slice HO353.out
                  subst eo47
                  go_wp2_with (first | ((with_reducible refine gate_callee (f := 19) rfl ?_); refine goesL_ (some 61) rfl rfl Tryd.func19 (by kernel_rfl) rfl #[.slice Ao47 t351.length co47] rfl jZ ?_; (with_reducible refine (check_Sound.calls kj18 _ _ t351 true _ ?side1 ?side2 ?side3 A42.out).mono ?_); (case side1 => exact jC (Kd.V_reads' HO353.out).2.2); (case side2 => exact (Kd.V_reads' HO353.out).2.1); (case side3 => exact Glob.below HG.out (jH HB)); rintro e w48 ⟨rfl, hb⟩; refine ⟨_, rfl, ?_⟩; have n0_ := Aside0.mk (Kd.V_below (jV HO_0) hb); have n1_ := Aside0.mk (Kd.V_below (jV HO353) hb); have n2_ := Aside0.mk (jB BK344 hb); have n3_ := Aside0.mk (jB BK345 hb); have n4_ := Aside0.mk (jB BK349 hb); have n5_ := Aside0.mk (zT (jH HB) hb); clear HO_0; clear HO353; clear BK344; clear BK345; clear BK349; clear HB; have HO_0 := n0_; have HO353 := n1_; have BK344 := n2_; have BK345 := n3_; have BK349 := n4_; have HB := n5_; clear n0_ n1_ n2_ n3_ n4_ n5_; (try clear hb); (try clear hb2); (try clear hk); (try clear hi)))
                  go_meet
                  case rel => exact ⟨_, (decide (t354 > (t351.length : Int))), jS, H', ⟨by have := HJ4.out; have := HK2.out; have := HJ13.out; have := HJ18.out; first | omega | exact Nat.le_refl _⟩, ⟨jV HO_0⟩, ⟨jV HO353⟩, ⟨jK BK344⟩, ⟨jK BK345⟩, ⟨jK BK349⟩, ⟨jH HB⟩⟩
                ·replace c43 := Bool.eq_false_iff.mpr c43
                 subst c43
                 rw [if_neg (show ¬ (false = true) by decide)] at H
                 have H' := Aside0.mk H
                 clear H
                 obtain ⟨Ao49, co49, eo49⟩ := Kd.V_slice HO353.out
                 subst eo49
                 go_wp2_with (first | ((with_reducible refine gate_callee (f := 19) rfl ?_); refine goesL_ (some 61) rfl rfl Tryd.func19 (by kernel_rfl) rfl #[.slice Ao49 t351.length co49] rfl jZ ?_; (with_reducible refine (check_Sound.calls kj18 _ _ t351 false _ ?side1 ?side2 ?side3 A42.out).mono ?_); (case side1 => exact jC (Kd.V_reads' HO353.out).2.2); (case side2 => exact (Kd.V_reads' HO353.out).2.1); (case side3 => exact Glob.below HG.out (jH HB)); rintro e w50 ⟨rfl, hb⟩; refine ⟨_, rfl, ?_⟩; have n0_ := Aside0.mk (Kd.V_below (jV HO_0) hb); have n1_ := Aside0.mk (Kd.V_below (jV HO353) hb); have n2_ := Aside0.mk (jB BK344 hb); have n3_ := Aside0.mk (jB BK345 hb); have n4_ := Aside0.mk (jB BK349 hb); have n5_ := Aside0.mk (zT (jH HB) hb); clear HO_0; clear HO353; clear BK344; clear BK345; clear BK349; clear HB; have HO_0 := n0_; have HO353 := n1_; have BK344 := n2_; have BK345 := n3_; have BK349 := n4_; have HB := n5_; clear n0_ n1_ n2_ n3_ n4_ n5_; (try clear hb); (try clear hb2); (try clear hk); (try clear hi)))
                 go_meet
                 case rel => exact ⟨_, (true), jS, H', ⟨by have := HJ4.out; have := HK2.out; have := HJ13.out; have := HJ18.out; first | omega | exact Nat.le_refl _⟩, ⟨jV HO_0⟩, ⟨jV HO353⟩, ⟨jK BK344⟩, ⟨jK BK345⟩, ⟨jK BK349⟩, ⟨jH HB⟩⟩
               case rest =>
                clear HC36
                obtain ⟨kq, x72_35, rfl, HA, HJ35, HO_0, HO_11, BK344, BK345, BK349, HB⟩ := hcut
                cases kq with
                | zero => exact absurd HA.out (by simp [hurdlelaw12_CodeSound.j4])
                | succ kj35 =>
                 have H := HA.out
                 clear HA
                 simp only [hurdlelaw12_CodeSound.j4] at H
                 by_cases c51 : x72_35 = true
                 ·subst c51
                  rw [if_pos rfl] at H
                  exact absurd H (by simp)
                 ·replace c51 := Bool.eq_false_iff.mpr c51
                  subst c51
                  rw [if_neg (show ¬ (false = true) by decide)] at H
                  replace H := Option.bind_eq_some_iff.mp H
                  obtain ⟨t357, A520, H⟩ := H
                  try dsimp only at H
                  have A52 := Aside0.mk A520
                  clear A520
                  have HC53 := Aside0.mk H
                  clear H
                  have hnb54 := NB349_344.out
                  have hnc54 := NB344_349.out
                  have hnb55 := NB349_345.out
                  have hnc55 := NB345_349.out
                  have hcz56_0 : wc.cell? ⟨gb349, 0, none⟩ = some (.int .i64 ((rd_T33 l1 x9_2).f0)) := (kC BK349.out 0).trans rfl
                  have hcz56_1 : wc.cell? ⟨gb349, 1, none⟩ = some (.int .i64 ((rd_T33 l1 x9_2).f1.f0)) := (kC BK349.out 1).trans rfl
                  have hcz56_2 : wc.cell? ⟨gb349, 2, none⟩ = some (.int .i64 ((rd_T33 l1 x9_2).f1.f1)) := (kC BK349.out 2).trans rfl
                  have hcz56_3 : wc.cell? ⟨gb349, 3, none⟩ = some (.int .i64 ((rd_T33 l1 x9_2).f1.f2)) := (kC BK349.out 3).trans rfl
                  have hcz56_4 : wc.cell? ⟨gb349, 4, none⟩ = some (.int .u32 ((rd_T33 l1 x9_2).f1.f3)) := (kC BK349.out 4).trans rfl
                  have hcz56_5 : wc.cell? ⟨gb349, 5, none⟩ = some (.int .u16 ((rd_T33 l1 x9_2).f2)) := (kC BK349.out 5).trans rfl
                  have hcz56_6 : wc.cell? ⟨gb349, 6, none⟩ = some (.int .u16 ((rd_T33 l1 x9_2).f3)) := (kC BK349.out 6).trans rfl
                  have hfz56_0 := kF BK349.out 0
                  have hfz56_1 := kF BK349.out 1
                  have hfz56_2 := kF BK349.out 2
                  have hfz56_3 := kF BK349.out 3
                  have hfz56_4 := kF BK349.out 4
                  have hfz56_5 := kF BK349.out 5
                  have hfz56_6 := kF BK349.out 6
                  go_upto_region 13 with (first | ((with_reducible refine gate_callee (f := 16) rfl ?_); refine goesL_ (some 76) rfl rfl Tryd.func16 (by kernel_rfl) rfl #[.slice Ao40 x0_2.length co40, .int .u16 ((rd_T33 l1 x9_2).f2)] rfl jZ ?_; (with_reducible refine (hurdlelaw12_at.calls _ _ x0_2 ((rd_T33 l1 x9_2).f2) t357 _ ?side1 ?side2 A52.out).mono ?_); (case side1 => exact jC (Kd.V_reads' HO_0.out).2.2); (case side2 => exact (Kd.V_reads' HO_0.out).2.1); rintro e w' ⟨rfl, ⟨nd, rfl⟩⟩; refine ⟨_, rfl, ?_⟩))
                  (try simp only [Act.put, List.setIfInBounds_toArray, List.set_cons_zero, List.set_cons_succ])
                  go_cut [96] (fun v96 wc => ∃ (kq : Nat) (x96_52 : Bool), v96 = .bool x96_52 ∧ Aside0 (hurdlelaw12_CodeSound.j5 kq x0_2 l1 x9_2 t351 t354 t357 x96_52 a2_0 a2_1 a2_2 a3_0 a3_1 a3_2 a3_3 ((rd_T33 l1 x9_2).f0) ((rd_T33 l1 x9_2).f1.f0) ((rd_T33 l1 x9_2).f1.f1) ((rd_T33 l1 x9_2).f1.f2) ((rd_T33 l1 x9_2).f1.f3) ((rd_T33 l1 x9_2).f2) ((rd_T33 l1 x9_2).f3) = some r) ∧ Aside0 (kq ≤ kj35) ∧ Aside0 (Kd.V k30 30 wc w.heap.size (fun k_ => (P0_ k_ ∨ w.heap.size ≤ k_) ∧ k_ ≠ gb344 ∧ k_ ≠ gb345 ∧ k_ ≠ gb349) (.slice Ao40 x0_2.length co40) x0_2) ∧ Aside0 (Kd.V k30 30 wc w.heap.size (fun k_ => (P0_ k_ ∨ w.heap.size ≤ k_) ∧ k_ ≠ gb344 ∧ k_ ≠ gb345 ∧ k_ ≠ gb349) v352 t351) ∧ Aside0 (wc.heap[gb344]? = some (.cells (arC [.int .u32 a2_0, .int .u32 a2_1] .u32 16 a2_2) 47 (0, 0))) ∧ Aside0 (wc.heap[gb345]? = some (.cells (arC [.int .u32 a3_0, .int .u32 a3_1, .int .u64 a3_2] .u64 6 a3_3) 51 (0, 0))) ∧ Aside0 (wc.heap[gb349]? = some (.cells #[.int .i64 ((rd_T33 l1 x9_2).f0), .int .i64 ((rd_T33 l1 x9_2).f1.f0), .int .i64 ((rd_T33 l1 x9_2).f1.f1), .int .i64 ((rd_T33 l1 x9_2).f1.f2), .int .u32 ((rd_T33 l1 x9_2).f1.f3), .int .u16 ((rd_T33 l1 x9_2).f2), .int .u16 ((rd_T33 l1 x9_2).f3)] 33 (0, 0))) ∧ Aside0 (Below w.heap.size w wc))
                  case first =>
                   have H := HC53.out
                   clear HC53
                   by_cases c57 : ((rd_T33 l1 x9_2).f0) = 0
                   ·rw [if_pos c57] at H
                    have c57b0 : (((rd_T33 l1 x9_2).f0) == 0) = true := bI.mpr c57
                    have c57b1 : (((rd_T33 l1 x9_2).f0) != 0) = false := nF.mpr c57
                    clear c57
                    (first | rw [c57b0] | (simp only [i64_w, i32_w]; rw [c57b0]) | skip)
                    have H' := Aside0.mk H
                    clear H
                    have hnb58 := NB349_344.out
                    have hnc58 := NB344_349.out
                    have hnb59 := NB349_345.out
                    have hnc59 := NB345_349.out
                    have hcz60_0 : wc.cell? ⟨gb349, 0, none⟩ = some (.int .i64 ((rd_T33 l1 x9_2).f0)) := (kC BK349.out 0).trans rfl
                    have hcz60_1 : wc.cell? ⟨gb349, 1, none⟩ = some (.int .i64 ((rd_T33 l1 x9_2).f1.f0)) := (kC BK349.out 1).trans rfl
                    have hcz60_2 : wc.cell? ⟨gb349, 2, none⟩ = some (.int .i64 ((rd_T33 l1 x9_2).f1.f1)) := (kC BK349.out 2).trans rfl
                    have hcz60_3 : wc.cell? ⟨gb349, 3, none⟩ = some (.int .i64 ((rd_T33 l1 x9_2).f1.f2)) := (kC BK349.out 3).trans rfl
                    have hcz60_4 : wc.cell? ⟨gb349, 4, none⟩ = some (.int .u32 ((rd_T33 l1 x9_2).f1.f3)) := (kC BK349.out 4).trans rfl
                    have hcz60_5 : wc.cell? ⟨gb349, 5, none⟩ = some (.int .u16 ((rd_T33 l1 x9_2).f2)) := (kC BK349.out 5).trans rfl
                    have hcz60_6 : wc.cell? ⟨gb349, 6, none⟩ = some (.int .u16 ((rd_T33 l1 x9_2).f3)) := (kC BK349.out 6).trans rfl
                    have hfz60_0 := kF BK349.out 0
                    have hfz60_1 := kF BK349.out 1
                    have hfz60_2 := kF BK349.out 2
                    have hfz60_3 := kF BK349.out 3
                    have hfz60_4 := kF BK349.out 4
                    have hfz60_5 := kF BK349.out 5
                    have hfz60_6 := kF BK349.out 6
                    go_wp2
                    go_meet
                    case rel => exact ⟨_, (false), jS, H', ⟨by have := HJ4.out; have := HK2.out; have := HJ13.out; have := HJ18.out; have := HJ35.out; first | omega | exact Nat.le_refl _⟩, ⟨jV HO_0⟩, ⟨jV HO_11⟩, ⟨jK BK344⟩, ⟨jK BK345⟩, ⟨jK BK349⟩, ⟨jH HB⟩⟩
                   ·rw [if_neg c57] at H
                    have c57b0 : (((rd_T33 l1 x9_2).f0) == 0) = false := bF.mpr c57
                    have c57b1 : (((rd_T33 l1 x9_2).f0) != 0) = true := nI.mpr c57
                    (first | rw [c57b0] | (simp only [i64_w, i32_w]; rw [c57b0]) | skip)
                    by_cases c61 : ((rd_T33 l1 x9_2).f0) = 1
                    ·rw [if_pos c61] at H
                     have c61b0 : (((rd_T33 l1 x9_2).f0) == 1) = true := bI.mpr c61
                     have c61b1 : (((rd_T33 l1 x9_2).f0) != 1) = false := nF.mpr c61
                     clear c61
                     have H' := Aside0.mk H
                     clear H
                     have hnb62 := NB349_344.out
                     have hnc62 := NB344_349.out
                     have hnb63 := NB349_345.out
                     have hnc63 := NB345_349.out
                     have hcz64_0 : wc.cell? ⟨gb349, 0, none⟩ = some (.int .i64 ((rd_T33 l1 x9_2).f0)) := (kC BK349.out 0).trans rfl
                     have hcz64_1 : wc.cell? ⟨gb349, 1, none⟩ = some (.int .i64 ((rd_T33 l1 x9_2).f1.f0)) := (kC BK349.out 1).trans rfl
                     have hcz64_2 : wc.cell? ⟨gb349, 2, none⟩ = some (.int .i64 ((rd_T33 l1 x9_2).f1.f1)) := (kC BK349.out 2).trans rfl
                     have hcz64_3 : wc.cell? ⟨gb349, 3, none⟩ = some (.int .i64 ((rd_T33 l1 x9_2).f1.f2)) := (kC BK349.out 3).trans rfl
                     have hcz64_4 : wc.cell? ⟨gb349, 4, none⟩ = some (.int .u32 ((rd_T33 l1 x9_2).f1.f3)) := (kC BK349.out 4).trans rfl
                     have hcz64_5 : wc.cell? ⟨gb349, 5, none⟩ = some (.int .u16 ((rd_T33 l1 x9_2).f2)) := (kC BK349.out 5).trans rfl
                     have hcz64_6 : wc.cell? ⟨gb349, 6, none⟩ = some (.int .u16 ((rd_T33 l1 x9_2).f3)) := (kC BK349.out 6).trans rfl
                     have hfz64_0 := kF BK349.out 0
                     have hfz64_1 := kF BK349.out 1
                     have hfz64_2 := kF BK349.out 2
                     have hfz64_3 := kF BK349.out 3
                     have hfz64_4 := kF BK349.out 4
                     have hfz64_5 := kF BK349.out 5
                     have hfz64_6 := kF BK349.out 6
                     go_wp2
                     go_meet
                     case rel => exact ⟨_, (false), jS, H', ⟨by have := HJ4.out; have := HK2.out; have := HJ13.out; have := HJ18.out; have := HJ35.out; first | omega | exact Nat.le_refl _⟩, ⟨jV HO_0⟩, ⟨jV HO_11⟩, ⟨jK BK344⟩, ⟨jK BK345⟩, ⟨jK BK349⟩, ⟨jH HB⟩⟩
                    ·rw [if_neg c61] at H
                     have c61b0 : (((rd_T33 l1 x9_2).f0) == 1) = false := bF.mpr c61
                     have c61b1 : (((rd_T33 l1 x9_2).f0) != 1) = true := nI.mpr c61
                     replace H := Option.bind_eq_some_iff.mp H
                     obtain ⟨t358, A650, H⟩ := H
                     try dsimp only at H
                     have A65 := Aside0.mk A650
                     clear A650
                     have H' := Aside0.mk H
                     clear H
                     have hnb66 := NB349_344.out
                     have hnc66 := NB344_349.out
                     have hnb67 := NB349_345.out
                     have hnc67 := NB345_349.out
                     have hcz68_0 : wc.cell? ⟨gb349, 0, none⟩ = some (.int .i64 ((rd_T33 l1 x9_2).f0)) := (kC BK349.out 0).trans rfl
                     have hcz68_1 : wc.cell? ⟨gb349, 1, none⟩ = some (.int .i64 ((rd_T33 l1 x9_2).f1.f0)) := (kC BK349.out 1).trans rfl
                     have hcz68_2 : wc.cell? ⟨gb349, 2, none⟩ = some (.int .i64 ((rd_T33 l1 x9_2).f1.f1)) := (kC BK349.out 2).trans rfl
                     have hcz68_3 : wc.cell? ⟨gb349, 3, none⟩ = some (.int .i64 ((rd_T33 l1 x9_2).f1.f2)) := (kC BK349.out 3).trans rfl
                     have hcz68_4 : wc.cell? ⟨gb349, 4, none⟩ = some (.int .u32 ((rd_T33 l1 x9_2).f1.f3)) := (kC BK349.out 4).trans rfl
                     have hcz68_5 : wc.cell? ⟨gb349, 5, none⟩ = some (.int .u16 ((rd_T33 l1 x9_2).f2)) := (kC BK349.out 5).trans rfl
                     have hcz68_6 : wc.cell? ⟨gb349, 6, none⟩ = some (.int .u16 ((rd_T33 l1 x9_2).f3)) := (kC BK349.out 6).trans rfl
                     have hfz68_0 := kF BK349.out 0
                     have hfz68_1 := kF BK349.out 1
                     have hfz68_2 := kF BK349.out 2
                     have hfz68_3 := kF BK349.out 3
                     have hfz68_4 := kF BK349.out 4
                     have hfz68_5 := kF BK349.out 5
                     have hfz68_6 := kF BK349.out 6
                     go_wp2_with (first | ((with_reducible refine gate_dst (N := 86) rfl ?_); (try (refine gate_guard (by rfl) ?_; dsimp only)); refine wpList_load_row rfl 47 (.tmp 6) rfl gb344 rfl 47 (arC [.int .u32 a2_0, .int .u32 a2_1] .u32 16 a2_2) (0, 0) _ (jK BK344) Tryd.underlying47 rfl (by kernel_rfl) ?_) | (go_at_call 20; (with_reducible refine (hurdleref06_Takes.calls kj35 a2_0 a2_1 a2_2 ((rd_T33 l1 x9_2).f1.f0) 0 0 ((rd_T33 l1 x9_2).f1.f3) t358 _ A65.out).mono ?_); rintro e w69 ⟨rfl, hb⟩; have n0_ := Aside0.mk (Kd.V_below (jV HO_0) hb); have n1_ := Aside0.mk (Kd.V_below (jV HO_11) hb); have n2_ := Aside0.mk (jB BK344 hb); have n3_ := Aside0.mk (jB BK345 hb); have n4_ := Aside0.mk (jB BK349 hb); have n5_ := Aside0.mk (zT (jH HB) hb); clear HO_0; clear HO_11; clear BK344; clear BK345; clear BK349; clear HB; have HO_0 := n0_; have HO_11 := n1_; have BK344 := n2_; have BK345 := n3_; have BK349 := n4_; have HB := n5_; clear n0_ n1_ n2_ n3_ n4_ n5_; (try clear hb); (try clear hb2); (try clear hk); (try clear hi)))
                     go_meet
                     case rel => exact ⟨_, (!t358), jS, H', ⟨by have := HJ4.out; have := HK2.out; have := HJ13.out; have := HJ18.out; have := HJ35.out; first | omega | exact Nat.le_refl _⟩, ⟨jV HO_0⟩, ⟨jV HO_11⟩, ⟨jK BK344⟩, ⟨jK BK345⟩, ⟨jK BK349⟩, ⟨jH HB⟩⟩
                  case rest =>
                   clear HC53
                   obtain ⟨kq, x96_52, rfl, HA, HJ52, HO_0, HO_11, BK344, BK345, BK349, HB⟩ := hcut
                   cases kq with
                   | zero => exact absurd HA.out (by simp [hurdlelaw12_CodeSound.j5])
                   | succ kj52 =>
                    have H := HA.out
                    clear HA
                    simp only [hurdlelaw12_CodeSound.j5] at H
                    have HC70 := Aside0.mk H
                    clear H
                    go_upto_if 96 with (fail)
                    go_cut [14] (fun v14 wc => ∃ (kq : Nat) (x14_69 : Int), v14 = .int .i64 x14_69 ∧ Aside0 (hurdlelaw12_CodeSound.j6 kq x0_2 l1 x9_2 t351 t354 x14_69 a2_0 a2_1 a2_2 a3_0 a3_1 a3_2 a3_3 ((rd_T33 l1 x9_2).f0) ((rd_T33 l1 x9_2).f1.f0) ((rd_T33 l1 x9_2).f1.f1) ((rd_T33 l1 x9_2).f1.f2) ((rd_T33 l1 x9_2).f1.f3) ((rd_T33 l1 x9_2).f2) ((rd_T33 l1 x9_2).f3) = some r) ∧ Aside0 (kq ≤ kj52) ∧ Aside0 (Kd.V k30 30 wc w.heap.size (fun k_ => (P0_ k_ ∨ w.heap.size ≤ k_) ∧ k_ ≠ gb344 ∧ k_ ≠ gb345 ∧ k_ ≠ gb349) (.slice Ao40 x0_2.length co40) x0_2) ∧ Aside0 (Kd.V k30 30 wc w.heap.size (fun k_ => (P0_ k_ ∨ w.heap.size ≤ k_) ∧ k_ ≠ gb344 ∧ k_ ≠ gb345 ∧ k_ ≠ gb349) v352 t351) ∧ Aside0 (wc.heap[gb344]? = some (.cells (arC [.int .u32 a2_0, .int .u32 a2_1] .u32 16 a2_2) 47 (0, 0))) ∧ Aside0 (wc.heap[gb345]? = some (.cells (arC [.int .u32 a3_0, .int .u32 a3_1, .int .u64 a3_2] .u64 6 a3_3) 51 (0, 0))) ∧ Aside0 (wc.heap[gb349]? = some (.cells #[.int .i64 ((rd_T33 l1 x9_2).f0), .int .i64 ((rd_T33 l1 x9_2).f1.f0), .int .i64 ((rd_T33 l1 x9_2).f1.f1), .int .i64 ((rd_T33 l1 x9_2).f1.f2), .int .u32 ((rd_T33 l1 x9_2).f1.f3), .int .u16 ((rd_T33 l1 x9_2).f2), .int .u16 ((rd_T33 l1 x9_2).f3)] 33 (0, 0))) ∧ Aside0 (Below w.heap.size w wc))
                    case first =>
                     have H := HC70.out
                     clear HC70
                     by_cases c71 : x96_52 = true
                     ·subst c71
                      rw [if_pos rfl] at H
                      replace H := Option.bind_eq_some_iff.mp H
                      obtain ⟨t359, A720, H⟩ := H
                      try dsimp only at H
                      have A72 := Aside0.mk A720
                      clear A720
                      have H' := Aside0.mk H
                      clear H
                      have hnb73 := NB349_344.out
                      have hnc73 := NB344_349.out
                      have hnb74 := NB349_345.out
                      have hnc74 := NB345_349.out
                      have hcz75_0 : wc.cell? ⟨gb349, 0, none⟩ = some (.int .i64 ((rd_T33 l1 x9_2).f0)) := (kC BK349.out 0).trans rfl
                      have hcz75_1 : wc.cell? ⟨gb349, 1, none⟩ = some (.int .i64 ((rd_T33 l1 x9_2).f1.f0)) := (kC BK349.out 1).trans rfl
                      have hcz75_2 : wc.cell? ⟨gb349, 2, none⟩ = some (.int .i64 ((rd_T33 l1 x9_2).f1.f1)) := (kC BK349.out 2).trans rfl
                      have hcz75_3 : wc.cell? ⟨gb349, 3, none⟩ = some (.int .i64 ((rd_T33 l1 x9_2).f1.f2)) := (kC BK349.out 3).trans rfl
                      have hcz75_4 : wc.cell? ⟨gb349, 4, none⟩ = some (.int .u32 ((rd_T33 l1 x9_2).f1.f3)) := (kC BK349.out 4).trans rfl
                      have hcz75_5 : wc.cell? ⟨gb349, 5, none⟩ = some (.int .u16 ((rd_T33 l1 x9_2).f2)) := (kC BK349.out 5).trans rfl
                      have hcz75_6 : wc.cell? ⟨gb349, 6, none⟩ = some (.int .u16 ((rd_T33 l1 x9_2).f3)) := (kC BK349.out 6).trans rfl
                      have hfz75_0 := kF BK349.out 0
                      have hfz75_1 := kF BK349.out 1
                      have hfz75_2 := kF BK349.out 2
                      have hfz75_3 := kF BK349.out 3
                      have hfz75_4 := kF BK349.out 4
                      have hfz75_5 := kF BK349.out 5
                      have hfz75_6 := kF BK349.out 6
                      go_wp2_with (first | ((with_reducible refine gate_callee (f := 16) rfl ?_); refine goesL_ (some 100) rfl rfl Tryd.func16 (by kernel_rfl) rfl #[.slice Ao40 x0_2.length co40, .int .u16 ((rd_T33 l1 x9_2).f3)] rfl jZ ?_; (with_reducible refine (hurdlelaw12_at.calls _ _ x0_2 ((rd_T33 l1 x9_2).f3) t359 _ ?side1 ?side2 A72.out).mono ?_); (case side1 => exact jC (Kd.V_reads' HO_0.out).2.2); (case side2 => exact (Kd.V_reads' HO_0.out).2.1); rintro e w' ⟨rfl, ⟨nd, rfl⟩⟩; refine ⟨_, rfl, ?_⟩))
                      go_meet
                      case rel => exact ⟨_, (t359), jS, H', ⟨by have := HJ4.out; have := HK2.out; have := HJ13.out; have := HJ18.out; have := HJ35.out; have := HJ52.out; first | omega | exact Nat.le_refl _⟩, ⟨jV HO_0⟩, ⟨jV HO_11⟩, ⟨jK BK344⟩, ⟨jK BK345⟩, ⟨jK BK349⟩, ⟨jH HB⟩⟩
                     ·replace c71 := Bool.eq_false_iff.mpr c71
                      subst c71
                      rw [if_neg (show ¬ (false = true) by decide)] at H
                      have H' := Aside0.mk H
                      clear H
                      go_wp2
                      go_meet
                      case rel => exact ⟨_, (t357), jS, H', ⟨by have := HJ4.out; have := HK2.out; have := HJ13.out; have := HJ18.out; have := HJ35.out; have := HJ52.out; first | omega | exact Nat.le_refl _⟩, ⟨jV HO_0⟩, ⟨jV HO_11⟩, ⟨jK BK344⟩, ⟨jK BK345⟩, ⟨jK BK349⟩, ⟨jH HB⟩⟩
                    case rest =>
                     clear HC70
                     obtain ⟨kq, x14_69, rfl, HA, HJ69, HO_0, HO_11, BK344, BK345, BK349, HB⟩ := hcut
                     cases kq with
                     | zero => exact absurd HA.out (by simp [hurdlelaw12_CodeSound.j6])
                     | succ kj69 =>
                      have H := HA.out
                      clear HA
                      simp only [hurdlelaw12_CodeSound.j6] at H
                      replace H := Option.bind_eq_some_iff.mp H
                      obtain ⟨⟨t360, t361⟩, A760, H⟩ := H
                      try dsimp only at H
                      have A76 := Aside0.mk A760
                      clear A760
                      replace H := Option.bind_eq_some_iff.mp H
                      obtain ⟨⟨t362, t363⟩, A770, H⟩ := H
                      try dsimp only at H
                      have A77 := Aside0.mk A770
                      clear A770
                      by_cases c78 : ((rd_T33 l1 x9_2).f0) = 0
                      ·rw [if_pos c78] at H
                       have c78b0 : (((rd_T33 l1 x9_2).f0) == 0) = true := bI.mpr c78
                       have c78b1 : (((rd_T33 l1 x9_2).f0) != 0) = false := nF.mpr c78
                       clear c78
                       have H' := Aside0.mk H
                       clear H
                       go_wp2_with (first | ((with_reducible refine gate_dst (N := 103) rfl ?_); (try (refine gate_guard (by rfl) ?_; dsimp only)); refine wpList_load_row rfl 47 (.tmp 6) rfl gb344 rfl 47 (arC [.int .u32 a2_0, .int .u32 a2_1] .u32 16 a2_2) (0, 0) _ (jK BK344) Tryd.underlying47 rfl (by kernel_rfl) ?_; obtain ⟨Ao79, co79, eo79⟩ := Kd.V_slice HO_11.out; subst eo79) | ((with_reducible refine gate_dst (N := 108) rfl ?_); (try (refine gate_guard (by rfl) ?_; dsimp only)); refine wpList_load_row rfl 51 (.tmp 7) rfl gb345 rfl 51 (arC [.int .u32 a3_0, .int .u32 a3_1, .int .u64 a3_2] .u64 6 a3_3) (0, 0) _ (jK BK345) Tryd.underlying51 rfl (by kernel_rfl) ?_) | ((with_reducible refine gate_callee (f := 21) rfl ?_); refine goesL_ (some 109) rfl rfl Tryd.func21 (by kernel_rfl) rfl #[.slice Ao79 t351.length co79, .agg (arC [.int .u32 a2_0, .int .u32 a2_1] .u32 16 a2_2), .int .i64 (wrap64 ((t351.length : Int) - t354)), .agg (arC [.int .u32 a3_0, .int .u32 a3_1, .int .u64 a3_2] .u64 6 a3_3)] rfl jZ ?_; (with_reducible refine (hurdleref06_From.calls kj69 _ _ t351 a2_0 a2_1 a2_2 (wrap64 ((t351.length : Int) - t354)) a3_0 a3_1 a3_2 a3_3 t360 t361 _ ?side1 ?side2 A76.out).mono ?_); (case side1 => exact jC (Kd.V_reads' HO_11.out).2.2); (case side2 => exact (Kd.V_reads' HO_11.out).2.1); rintro e w80 ⟨rfl, hb⟩; refine ⟨_, rfl, ?_⟩; have n0_ := Aside0.mk (Kd.V_below (jV HO_0) hb); have n1_ := Aside0.mk (Kd.V_below (jV HO_11) hb); have n2_ := Aside0.mk (jB BK344 hb); have n3_ := Aside0.mk (jB BK345 hb); have n4_ := Aside0.mk (jB BK349 hb); have n5_ := Aside0.mk (zT (jH HB) hb); clear HO_0; clear HO_11; clear BK344; clear BK345; clear BK349; clear HB; have HO_0 := n0_; have HO_11 := n1_; have BK344 := n2_; have BK345 := n3_; have BK349 := n4_; have HB := n5_; clear n0_ n1_ n2_ n3_ n4_ n5_; (try clear hb); (try clear hb2); (try clear hk); (try clear hi)) | ((with_reducible refine gate_dst (N := 114) rfl ?_); (try (refine gate_guard (by rfl) ?_; dsimp only)); refine wpList_load_row rfl 47 (.tmp 6) rfl gb344 rfl 47 (arC [.int .u32 a2_0, .int .u32 a2_1] .u32 16 a2_2) (0, 0) _ (jK BK344) Tryd.underlying47 rfl (by kernel_rfl) ?_) | ((with_reducible refine gate_dst (N := 119) rfl ?_); (try (refine gate_guard (by rfl) ?_; dsimp only)); refine wpList_load_row rfl 51 (.tmp 7) rfl gb345 rfl 51 (arC [.int .u32 a3_0, .int .u32 a3_1, .int .u64 a3_2] .u64 6 a3_3) (0, 0) _ (jK BK345) Tryd.underlying51 rfl (by kernel_rfl) ?_) | ((with_reducible refine gate_callee (f := 21) rfl ?_); refine goesL_ (some 120) rfl rfl Tryd.func21 (by kernel_rfl) rfl #[.slice Ao40 x0_2.length co40, .agg (arC [.int .u32 a2_0, .int .u32 a2_1] .u32 16 a2_2), .int .i64 (wrap64 ((x0_2.length : Int) - x14_69)), .agg (arC [.int .u32 a3_0, .int .u32 a3_1, .int .u64 a3_2] .u64 6 a3_3)] rfl jZ ?_; (with_reducible refine (hurdleref06_From.calls kj69 _ _ x0_2 a2_0 a2_1 a2_2 (wrap64 ((x0_2.length : Int) - x14_69)) a3_0 a3_1 a3_2 a3_3 t362 t363 _ ?side1 ?side2 A77.out).mono ?_); (case side1 => exact jC (Kd.V_reads' HO_0.out).2.2); (case side2 => exact (Kd.V_reads' HO_0.out).2.1); rintro e w81 ⟨rfl, hb⟩; refine ⟨_, rfl, ?_⟩; have n0_ := Aside0.mk (Kd.V_below (jV HO_0) hb); have n1_ := Aside0.mk (Kd.V_below (jV HO_11) hb); have n2_ := Aside0.mk (jB BK344 hb); have n3_ := Aside0.mk (jB BK345 hb); have n4_ := Aside0.mk (jB BK349 hb); have n5_ := Aside0.mk (zT (jH HB) hb); clear HO_0; clear HO_11; clear BK344; clear BK345; clear BK349; clear HB; have HO_0 := n0_; have HO_11 := n1_; have BK344 := n2_; have BK345 := n3_; have BK349 := n4_; have HB := n5_; clear n0_ n1_ n2_ n3_ n4_ n5_; (try clear hb); (try clear hb2); (try clear hk); (try clear hi); have hnb82 := NB349_344.out; have hnc82 := NB344_349.out; have hnb83 := NB349_345.out; have hnc83 := NB345_349.out; have hcz84_0 : w81.cell? ⟨gb349, 0, none⟩ = some (.int .i64 ((rd_T33 l1 x9_2).f0)) := (kC BK349.out 0).trans rfl; have hcz84_1 : w81.cell? ⟨gb349, 1, none⟩ = some (.int .i64 ((rd_T33 l1 x9_2).f1.f0)) := (kC BK349.out 1).trans rfl; have hcz84_2 : w81.cell? ⟨gb349, 2, none⟩ = some (.int .i64 ((rd_T33 l1 x9_2).f1.f1)) := (kC BK349.out 2).trans rfl; have hcz84_3 : w81.cell? ⟨gb349, 3, none⟩ = some (.int .i64 ((rd_T33 l1 x9_2).f1.f2)) := (kC BK349.out 3).trans rfl; have hcz84_4 : w81.cell? ⟨gb349, 4, none⟩ = some (.int .u32 ((rd_T33 l1 x9_2).f1.f3)) := (kC BK349.out 4).trans rfl; have hcz84_5 : w81.cell? ⟨gb349, 5, none⟩ = some (.int .u16 ((rd_T33 l1 x9_2).f2)) := (kC BK349.out 5).trans rfl; have hcz84_6 : w81.cell? ⟨gb349, 6, none⟩ = some (.int .u16 ((rd_T33 l1 x9_2).f3)) := (kC BK349.out 6).trans rfl; have hfz84_0 := kF BK349.out 0; have hfz84_1 := kF BK349.out 1; have hfz84_2 := kF BK349.out 2; have hfz84_3 := kF BK349.out 3; have hfz84_4 := kF BK349.out 4; have hfz84_5 := kF BK349.out 5; have hfz84_6 := kF BK349.out 6))
                       go_roundg kj69
                       case measure => have := HJ4.out; have := HK2.out; have := HJ13.out; have := HJ18.out; have := HJ35.out; have := HJ52.out; have := HJ69.out; omega
                       case rel => exact ⟨(t351), (wrap64 (x9_2 + 1)), jS, H', ⟨by have := HJ4.out; have := HK2.out; have := HJ13.out; have := HJ18.out; have := HJ35.out; have := HJ52.out; have := HJ69.out; omega⟩, ⟨by (with_reducible repeat (first | apply Kd.V_alloc | apply Kd.V_drewN | apply Kd.V_drew)); exact Kd.V_mono HO_11.out (fun _ hk => ⟨hk.1, ⟨hk.2.1, hk.2.2.1⟩⟩)⟩, ⟨jK BK344⟩, ⟨jK BK345⟩, ⟨jH HB⟩⟩
                      ·rw [if_neg c78] at H
                       have c78b0 : (((rd_T33 l1 x9_2).f0) == 0) = false := bF.mpr c78
                       have c78b1 : (((rd_T33 l1 x9_2).f0) != 0) = true := nI.mpr c78
                       by_cases c85 : t360 = t362
                       ·rw [if_pos c85] at H
                        have c85b0 : (t360 == t362) = true := bI.mpr c85
                        have c85b1 : (t360 != t362) = false := nF.mpr c85
                        clear c85
                        have H' := Aside0.mk H
                        clear H
                        go_wp2_with (first | ((with_reducible refine gate_dst (N := 103) rfl ?_); (try (refine gate_guard (by rfl) ?_; dsimp only)); refine wpList_load_row rfl 47 (.tmp 6) rfl gb344 rfl 47 (arC [.int .u32 a2_0, .int .u32 a2_1] .u32 16 a2_2) (0, 0) _ (jK BK344) Tryd.underlying47 rfl (by kernel_rfl) ?_; obtain ⟨Ao86, co86, eo86⟩ := Kd.V_slice HO_11.out; subst eo86) | ((with_reducible refine gate_dst (N := 108) rfl ?_); (try (refine gate_guard (by rfl) ?_; dsimp only)); refine wpList_load_row rfl 51 (.tmp 7) rfl gb345 rfl 51 (arC [.int .u32 a3_0, .int .u32 a3_1, .int .u64 a3_2] .u64 6 a3_3) (0, 0) _ (jK BK345) Tryd.underlying51 rfl (by kernel_rfl) ?_) | ((with_reducible refine gate_callee (f := 21) rfl ?_); refine goesL_ (some 109) rfl rfl Tryd.func21 (by kernel_rfl) rfl #[.slice Ao86 t351.length co86, .agg (arC [.int .u32 a2_0, .int .u32 a2_1] .u32 16 a2_2), .int .i64 (wrap64 ((t351.length : Int) - t354)), .agg (arC [.int .u32 a3_0, .int .u32 a3_1, .int .u64 a3_2] .u64 6 a3_3)] rfl jZ ?_; (with_reducible refine (hurdleref06_From.calls kj69 _ _ t351 a2_0 a2_1 a2_2 (wrap64 ((t351.length : Int) - t354)) a3_0 a3_1 a3_2 a3_3 t360 t361 _ ?side1 ?side2 A76.out).mono ?_); (case side1 => exact jC (Kd.V_reads' HO_11.out).2.2); (case side2 => exact (Kd.V_reads' HO_11.out).2.1); rintro e w87 ⟨rfl, hb⟩; refine ⟨_, rfl, ?_⟩; have n0_ := Aside0.mk (Kd.V_below (jV HO_0) hb); have n1_ := Aside0.mk (Kd.V_below (jV HO_11) hb); have n2_ := Aside0.mk (jB BK344 hb); have n3_ := Aside0.mk (jB BK345 hb); have n4_ := Aside0.mk (jB BK349 hb); have n5_ := Aside0.mk (zT (jH HB) hb); clear HO_0; clear HO_11; clear BK344; clear BK345; clear BK349; clear HB; have HO_0 := n0_; have HO_11 := n1_; have BK344 := n2_; have BK345 := n3_; have BK349 := n4_; have HB := n5_; clear n0_ n1_ n2_ n3_ n4_ n5_; (try clear hb); (try clear hb2); (try clear hk); (try clear hi)) | ((with_reducible refine gate_dst (N := 114) rfl ?_); (try (refine gate_guard (by rfl) ?_; dsimp only)); refine wpList_load_row rfl 47 (.tmp 6) rfl gb344 rfl 47 (arC [.int .u32 a2_0, .int .u32 a2_1] .u32 16 a2_2) (0, 0) _ (jK BK344) Tryd.underlying47 rfl (by kernel_rfl) ?_) | ((with_reducible refine gate_dst (N := 119) rfl ?_); (try (refine gate_guard (by rfl) ?_; dsimp only)); refine wpList_load_row rfl 51 (.tmp 7) rfl gb345 rfl 51 (arC [.int .u32 a3_0, .int .u32 a3_1, .int .u64 a3_2] .u64 6 a3_3) (0, 0) _ (jK BK345) Tryd.underlying51 rfl (by kernel_rfl) ?_) | ((with_reducible refine gate_callee (f := 21) rfl ?_); refine goesL_ (some 120) rfl rfl Tryd.func21 (by kernel_rfl) rfl #[.slice Ao40 x0_2.length co40, .agg (arC [.int .u32 a2_0, .int .u32 a2_1] .u32 16 a2_2), .int .i64 (wrap64 ((x0_2.length : Int) - x14_69)), .agg (arC [.int .u32 a3_0, .int .u32 a3_1, .int .u64 a3_2] .u64 6 a3_3)] rfl jZ ?_; (with_reducible refine (hurdleref06_From.calls kj69 _ _ x0_2 a2_0 a2_1 a2_2 (wrap64 ((x0_2.length : Int) - x14_69)) a3_0 a3_1 a3_2 a3_3 t362 t363 _ ?side1 ?side2 A77.out).mono ?_); (case side1 => exact jC (Kd.V_reads' HO_0.out).2.2); (case side2 => exact (Kd.V_reads' HO_0.out).2.1); rintro e w88 ⟨rfl, hb⟩; refine ⟨_, rfl, ?_⟩; have n0_ := Aside0.mk (Kd.V_below (jV HO_0) hb); have n1_ := Aside0.mk (Kd.V_below (jV HO_11) hb); have n2_ := Aside0.mk (jB BK344 hb); have n3_ := Aside0.mk (jB BK345 hb); have n4_ := Aside0.mk (jB BK349 hb); have n5_ := Aside0.mk (zT (jH HB) hb); clear HO_0; clear HO_11; clear BK344; clear BK345; clear BK349; clear HB; have HO_0 := n0_; have HO_11 := n1_; have BK344 := n2_; have BK345 := n3_; have BK349 := n4_; have HB := n5_; clear n0_ n1_ n2_ n3_ n4_ n5_; (try clear hb); (try clear hb2); (try clear hk); (try clear hi); have hnb89 := NB349_344.out; have hnc89 := NB344_349.out; have hnb90 := NB349_345.out; have hnc90 := NB345_349.out; have hcz91_0 : w88.cell? ⟨gb349, 0, none⟩ = some (.int .i64 ((rd_T33 l1 x9_2).f0)) := (kC BK349.out 0).trans rfl; have hcz91_1 : w88.cell? ⟨gb349, 1, none⟩ = some (.int .i64 ((rd_T33 l1 x9_2).f1.f0)) := (kC BK349.out 1).trans rfl; have hcz91_2 : w88.cell? ⟨gb349, 2, none⟩ = some (.int .i64 ((rd_T33 l1 x9_2).f1.f1)) := (kC BK349.out 2).trans rfl; have hcz91_3 : w88.cell? ⟨gb349, 3, none⟩ = some (.int .i64 ((rd_T33 l1 x9_2).f1.f2)) := (kC BK349.out 3).trans rfl; have hcz91_4 : w88.cell? ⟨gb349, 4, none⟩ = some (.int .u32 ((rd_T33 l1 x9_2).f1.f3)) := (kC BK349.out 4).trans rfl; have hcz91_5 : w88.cell? ⟨gb349, 5, none⟩ = some (.int .u16 ((rd_T33 l1 x9_2).f2)) := (kC BK349.out 5).trans rfl; have hcz91_6 : w88.cell? ⟨gb349, 6, none⟩ = some (.int .u16 ((rd_T33 l1 x9_2).f3)) := (kC BK349.out 6).trans rfl; have hfz91_0 := kF BK349.out 0; have hfz91_1 := kF BK349.out 1; have hfz91_2 := kF BK349.out 2; have hfz91_3 := kF BK349.out 3; have hfz91_4 := kF BK349.out 4; have hfz91_5 := kF BK349.out 5; have hfz91_6 := kF BK349.out 6))
                        go_roundg kj69
                        case measure => have := HJ4.out; have := HK2.out; have := HJ13.out; have := HJ18.out; have := HJ35.out; have := HJ52.out; have := HJ69.out; omega
                        case rel => exact ⟨(t351), (wrap64 (x9_2 + 1)), jS, H', ⟨by have := HJ4.out; have := HK2.out; have := HJ13.out; have := HJ18.out; have := HJ35.out; have := HJ52.out; have := HJ69.out; omega⟩, ⟨by (with_reducible repeat (first | apply Kd.V_alloc | apply Kd.V_drewN | apply Kd.V_drew)); exact Kd.V_mono HO_11.out (fun _ hk => ⟨hk.1, ⟨hk.2.1, hk.2.2.1⟩⟩)⟩, ⟨jK BK344⟩, ⟨jK BK345⟩, ⟨jH HB⟩⟩
                       ·rw [if_neg c85] at H
                        exact absurd H (by simp)
              ·rw [if_neg c35] at H
               have c35b0 : (t355 == 0) = false := bF.mpr c35
               have c35b1 : (t355 != 0) = true := nI.mpr c35
               have H' := Aside0.mk H
               clear H
               have hnb92 := NB349_344.out
               have hnc92 := NB344_349.out
               have hnb93 := NB349_345.out
               have hnc93 := NB345_349.out
               have hcz94_0 : wc.cell? ⟨gb349, 0, none⟩ = some (.int .i64 ((rd_T33 l1 x9_2).f0)) := (kC BK349.out 0).trans rfl
               have hcz94_1 : wc.cell? ⟨gb349, 1, none⟩ = some (.int .i64 ((rd_T33 l1 x9_2).f1.f0)) := (kC BK349.out 1).trans rfl
               have hcz94_2 : wc.cell? ⟨gb349, 2, none⟩ = some (.int .i64 ((rd_T33 l1 x9_2).f1.f1)) := (kC BK349.out 2).trans rfl
               have hcz94_3 : wc.cell? ⟨gb349, 3, none⟩ = some (.int .i64 ((rd_T33 l1 x9_2).f1.f2)) := (kC BK349.out 3).trans rfl
               have hcz94_4 : wc.cell? ⟨gb349, 4, none⟩ = some (.int .u32 ((rd_T33 l1 x9_2).f1.f3)) := (kC BK349.out 4).trans rfl
               have hcz94_5 : wc.cell? ⟨gb349, 5, none⟩ = some (.int .u16 ((rd_T33 l1 x9_2).f2)) := (kC BK349.out 5).trans rfl
               have hcz94_6 : wc.cell? ⟨gb349, 6, none⟩ = some (.int .u16 ((rd_T33 l1 x9_2).f3)) := (kC BK349.out 6).trans rfl
               have hfz94_0 := kF BK349.out 0
               have hfz94_1 := kF BK349.out 1
               have hfz94_2 := kF BK349.out 2
               have hfz94_3 := kF BK349.out 3
               have hfz94_4 := kF BK349.out 4
               have hfz94_5 := kF BK349.out 5
               have hfz94_6 := kF BK349.out 6
               obtain ⟨Ao95, co95, eo95⟩ := Kd.V_slice HO_0.out
               subst eo95
               go_wp2_with (first | ((with_reducible refine gate_callee (f := 9) rfl ?_); refine goesL_ (some 54) rfl rfl Tryd.func9 (by kernel_rfl) rfl #[.slice Ao95 x0_2.length co95, .agg #[.int .i64 ((rd_T33 l1 x9_2).f0), .int .i64 ((rd_T33 l1 x9_2).f1.f0), .int .i64 ((rd_T33 l1 x9_2).f1.f1), .int .i64 ((rd_T33 l1 x9_2).f1.f2), .int .u32 ((rd_T33 l1 x9_2).f1.f3), .int .u16 ((rd_T33 l1 x9_2).f2), .int .u16 ((rd_T33 l1 x9_2).f3)]] rfl jZ ?_; (with_reducible refine (hurdlelaw12_Do.calls kj18 (fun k_ => ((P0_ k_ ∨ w.heap.size ≤ k_) ∧ (k_ ≠ gb344 ∧ (k_ ≠ gb345 ∧ k_ ≠ gb349)))) _ _ x0_2 ((rd_T33 l1 x9_2).f0) ((rd_T33 l1 x9_2).f1.f0) ((rd_T33 l1 x9_2).f1.f1) ((rd_T33 l1 x9_2).f1.f2) ((rd_T33 l1 x9_2).f1.f3) ((rd_T33 l1 x9_2).f2) ((rd_T33 l1 x9_2).f3) t351 t354 t355 _ ?side1 ?side2 A34.out).mono ?_); (case side1 => exact HO_0.out); (case side2 => exact Glob.below HG.out (jH HB)); rintro e w96 ⟨v352, rfl, ho0, hb⟩; refine ⟨_, rfl, ?_⟩; have n0_ := Aside0.mk (Kd.V_below (jV HO_0) hb); have n1_ := Aside0.mk (Kd.V_lower (Kd.V_mono (ok' := fun k_ => (P0_ k_ ∨ w.heap.size ≤ k_) ∧ k_ ≠ gb344 ∧ k_ ≠ gb345 ∧ k_ ≠ gb349) ho0 (fun k_ hk_ => ⟨Or.elim hk_ (fun hs_ => hs_.1) (fun hn_ => (.inr (Nat.le_trans (zZ (jH HB)) hn_))), Or.elim hk_ (fun hs_ => hs_.2.1) (fun hn_ => (Kd.freshB (g := gb344) (o := .cells (arC [.int .u32 a2_0, .int .u32 a2_1] .u32 16 a2_2) 47 (0, 0)) (jK BK344) k_ hn_)), Or.elim hk_ (fun hs_ => hs_.2.2.1) (fun hn_ => (Kd.freshB (g := gb345) (o := .cells (arC [.int .u32 a3_0, .int .u32 a3_1, .int .u64 a3_2] .u64 6 a3_3) 51 (0, 0)) (jK BK345) k_ hn_)), Or.elim hk_ (fun hs_ => hs_.2.2.2) (fun hn_ => (Kd.freshB (g := gb349) (o := .cells #[.int .i64 ((rd_T33 l1 x9_2).f0), .int .i64 ((rd_T33 l1 x9_2).f1.f0), .int .i64 ((rd_T33 l1 x9_2).f1.f1), .int .i64 ((rd_T33 l1 x9_2).f1.f2), .int .u32 ((rd_T33 l1 x9_2).f1.f3), .int .u16 ((rd_T33 l1 x9_2).f2), .int .u16 ((rd_T33 l1 x9_2).f3)] 33 (0, 0)) (jK BK349) k_ hn_))⟩)) (zZ (jH HB))); have n2_ := Aside0.mk (jB BK344 hb); have n3_ := Aside0.mk (jB BK345 hb); have n4_ := Aside0.mk (jB BK349 hb); have n5_ := Aside0.mk (zT (jH HB) hb); clear HO_0; clear BK344; clear BK345; clear BK349; clear HB; have HO_0 := n0_; have HO353 := n1_; have BK344 := n2_; have BK345 := n3_; have BK349 := n4_; have HB := n5_; clear n0_ n1_ n2_ n3_ n4_ n5_; (try clear hb); (try clear hb2); (try clear hk); (try clear hi); (try clear ho0)))
               go_roundg kj18
               case measure => have := HJ4.out; have := HK2.out; have := HJ13.out; have := HJ18.out; omega
               case rel => exact ⟨(x0_2), (wrap64 (x9_2 + 1)), jS, H', ⟨by have := HJ4.out; have := HK2.out; have := HJ13.out; have := HJ18.out; omega⟩, ⟨by (with_reducible repeat (first | apply Kd.V_alloc | apply Kd.V_drewN | apply Kd.V_drew)); exact Kd.V_mono HO_0.out (fun _ hk => ⟨hk.1, ⟨hk.2.1, hk.2.2.1⟩⟩)⟩, ⟨jK BK344⟩, ⟨jK BK345⟩, ⟨jH HB⟩⟩
          ·rw [if_neg c18] at H
           exact absurd H (by simp)
         ·rw [if_neg c17] at H
          exact absurd H (by simp)
        ·replace c16 := Bool.eq_false_iff.mpr c16
         subst c16
         rw [if_neg (show ¬ (false = true) by decide)] at H
         replace H := Option.bind_eq_some_iff.mp H
         obtain ⟨t364, A970, H⟩ := H
         try dsimp only at H
         have A97 := Aside0.mk A970
         clear A970
         obtain rfl := Option.some.inj H
         go_wp2_with (first | ((with_reducible refine gate_callee (f := 8) rfl ?_); refine goesL_ (some 132) rfl rfl Tryd.func8 (by kernel_rfl) rfl #[] rfl jZ ?_; (with_reducible refine (hurdlelaw12_knows.calls kj13  t364 _ ?side1 A97.out).mono ?_); (case side1 => exact Glob.below HG.out (jH HB)); rintro e w98 ⟨rfl, hb⟩; refine ⟨_, rfl, ?_⟩; have n0_ := Aside0.mk (Kd.V_below (jV HO_0) hb); have n1_ := Aside0.mk (jB BK344 hb); have n2_ := Aside0.mk (jB BK345 hb); have n3_ := Aside0.mk (zT (jH HB) hb); clear HO_0; clear BK344; clear BK345; clear HB; have HO_0 := n0_; have BK344 := n1_; have BK345 := n2_; have HB := n3_; clear n0_ n1_ n2_ n3_; (try clear hb); (try clear hb2); (try clear hk); (try clear hi)))
         go_ret
         exact ⟨jE, jH HB⟩
end Go.Proofs.YtnchbnnijboklaaDoor.M
