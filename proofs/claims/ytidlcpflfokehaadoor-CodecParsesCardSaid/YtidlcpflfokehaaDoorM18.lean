/- By a program of this session: what Go functions of the seat compute, as Lean functions, each with a proof that the call of the Go function comes to that. -/
import Derived.Test.YtidlcpflfokehaaDoorM0
import Derived.Test.YtidlcpflfokehaaDoorM12
import Derived.Test.YtidlcpflfokehaaDoorM13
import Derived.Test.YtidlcpflfokehaaDoorM14
import Derived.Test.YtidlcpflfokehaaDoorM16
import Derived.Test.YtidlcpflfokehaaDoorM17
namespace Go.Proofs.YtidlcpflfokehaaDoor.M
open Go.RowKit Go.Proofs.YtidlcpflfokehaaDoorW.PrintWords Go.Proofs.YtidlcpflfokehaaDoorW.PrintLast Go.Proofs.YtidlcpflfokehaaDoorW.PrintMore
attribute [local go_sem] max2_int min2_int max_two min_two max_three min_three max_four min_four   -- for this text's walks alone
set_option linter.unusedVariables false
set_option linter.unusedSimpArgs false

/-! ### hurdleref02_Parse: function 25 -/
theorem isLt_of_some {w : World} {g : Nat} {o : Obj} (h : w.heap[g]? = some o) : g < w.heap.size := by
  rcases Nat.lt_or_ge g w.heap.size with hh | hh
  · exact hh
  · rw [Array.getElem?_eq_none hh] at h; cases h
mutual
def hurdleref02_Parse.l0 : Nat → ByteArray → List ByteArray → List ByteArray → Int → Option (Int × Int × Int × Int × Bool)
  | 0, _, _, _, _ => none
  | k + 1, x0, x4, x5, x6 => if x6 < (x5.length : Int) then (if 0 ≤ x6 then (if 0 < (x4.length : Int) then (if (rdOf ByteArray.empty x5 x6).toList = (rdOf ByteArray.empty x4 0).toList then (hurdleref02_Parse.j1 k x0 x4 x5 x6 (decide ((x4.length : Int) > 4))) else (hurdleref02_Parse.j1 k x0 x4 x5 x6 true)) else (none)) else (none)) else (some (0, 0, 0, 0, false))
def hurdleref02_Parse.j1 : Nat → ByteArray → List ByteArray → List ByteArray → Int → Bool → Option (Int × Int × Int × Int × Bool)
  | 0, _, _, _, _, _ => none
  | k + 1, x0, x4, x5, x6, x36 => if x36 = true then (hurdleref02_Parse.l0 k x0 x4 x5 (wrap64 (x6 + 1))) else ((hurdleref02_Ops.f).bind fun t148 => (if 0 ≤ x6 then (if x6 < (t148.length : Int) then (if 1 ≤ (x4.length : Int) then ((some (x4.drop 1 : List ByteArray)).bind fun y153 => ((hurdleref02_plain.f x6).bind fun t158 => (if t158 = true then (hurdleref02_Parse.j2 k x0 x4 x5 x6 y153 false (rd t148 x6) 0 0 0) else (hurdleref02_Parse.j2 k x0 x4 x5 x6 y153 (decide ((y153.length : Int) > 0)) (rd t148 x6) 0 0 0)))) else (none)) else (none)) else (none)))
def hurdleref02_Parse.j2 : Nat → ByteArray → List ByteArray → List ByteArray → Int → List ByteArray → Bool → Int → Int → Int → Int → Option (Int × Int × Int × Int × Bool)
  | 0, _, _, _, _, _, _, _, _, _, _ => none
  | k + 1, x0, x4, x5, x6, x8, x51, x153000, x153001, x153002, x153003 => if x51 = true then (if 0 < (x8.length : Int) then ((hurdleref01_Parse.f k (rdOf ByteArray.empty x8 0)).bind fun bt160 => (if 1 ≤ (x8.length : Int) then (hurdleref02_Parse.j3 k x0 x4 x5 x6 (x8.drop 1) x153000 x153001 x153002 ((Int.tmod bt160.1 4294967296) % 4294967296)) else (none))) else (none)) else (hurdleref02_Parse.j3 k x0 x4 x5 x6 x8 x153000 x153001 x153002 x153003)
def hurdleref02_Parse.j3 : Nat → ByteArray → List ByteArray → List ByteArray → Int → List ByteArray → Int → Int → Int → Int → Option (Int × Int × Int × Int × Bool)
  | 0, _, _, _, _, _, _, _, _, _ => none
  | k + 1, x0, x4, x5, x6, x8, x153000, x153001, x153002, x153003 => (hurdleref02_branch.f x6).bind fun t167 => (if t167 = true then (hurdleref02_Parse.j4 k x0 x4 x5 x6 x8 ((x8.length : Int) == 2) x153000 x153001 x153002 x153003) else (hurdleref02_Parse.j4 k x0 x4 x5 x6 x8 false x153000 x153001 x153002 x153003))
def hurdleref02_Parse.j4 : Nat → ByteArray → List ByteArray → List ByteArray → Int → List ByteArray → Bool → Int → Int → Int → Int → Option (Int × Int × Int × Int × Bool)
  | 0, _, _, _, _, _, _, _, _, _, _ => none
  | k + 1, x0, x4, x5, x6, x8, x71, x153000, x153001, x153002, x153003 => if x71 = true then (if 0 < (x8.length : Int) then ((hurdleref01_Parse.f k (rdOf ByteArray.empty x8 0)).bind fun bt169 => (if 1 < (x8.length : Int) then ((hurdleref01_Parse.f k (rdOf ByteArray.empty x8 1)).bind fun bt172 => (hurdleref02_Parse.j5 k x0 x4 x5 x6 x153000 (wrap64 (Int.tmod bt169.1 256)) (wrap64 (Int.tmod bt172.1 256)) x153003)) else (none))) else (none)) else (hurdleref02_Parse.j5 k x0 x4 x5 x6 x153000 x153001 x153002 x153003)
def hurdleref02_Parse.j5 : Nat → ByteArray → List ByteArray → List ByteArray → Int → Int → Int → Int → Int → Option (Int × Int × Int × Int × Bool)
  | 0, _, _, _, _, _, _, _, _ => none
  | k + 1, x0, x4, x5, x6, x153000, x153001, x153002, x153003 => (hurdleref02_Right.f k x153000 x153001 x153002 x153003).bind fun t174 => (if t174 = true then ((hurdleref02_Print.f k x153000 x153001 x153002 x153003).bind fun t175 => (if t175.toList = x0.toList then (some (x153000, x153001, x153002, x153003, true)) else (hurdleref02_Parse.l0 k x0 x4 x5 (wrap64 (x6 + 1))))) else (hurdleref02_Parse.l0 k x0 x4 x5 (wrap64 (x6 + 1))))
end
def hurdleref02_Parse.g (k : Nat) (a0 : ByteArray) (l1 : List ByteArray) : Option (Int × Int × Int × Int × Bool) := (hurdleref02_Words.f).bind fun t143 => (hurdleref02_Parse.l0 k a0 l1 t143 0)
theorem hurdleref02_Parse.mono_l : ∀ k, (∀ y0 y1 y2 y3, LeO (hurdleref02_Parse.l0 k y0 y1 y2 y3) (hurdleref02_Parse.l0 (k + 1) y0 y1 y2 y3)) ∧ (∀ y0 y1 y2 y3 y4, LeO (hurdleref02_Parse.j1 k y0 y1 y2 y3 y4) (hurdleref02_Parse.j1 (k + 1) y0 y1 y2 y3 y4)) ∧ (∀ y0 y1 y2 y3 y4 y5 y6 y7 y8 y9, LeO (hurdleref02_Parse.j2 k y0 y1 y2 y3 y4 y5 y6 y7 y8 y9) (hurdleref02_Parse.j2 (k + 1) y0 y1 y2 y3 y4 y5 y6 y7 y8 y9)) ∧ (∀ y0 y1 y2 y3 y4 y5 y6 y7 y8, LeO (hurdleref02_Parse.j3 k y0 y1 y2 y3 y4 y5 y6 y7 y8) (hurdleref02_Parse.j3 (k + 1) y0 y1 y2 y3 y4 y5 y6 y7 y8)) ∧ (∀ y0 y1 y2 y3 y4 y5 y6 y7 y8 y9, LeO (hurdleref02_Parse.j4 k y0 y1 y2 y3 y4 y5 y6 y7 y8 y9) (hurdleref02_Parse.j4 (k + 1) y0 y1 y2 y3 y4 y5 y6 y7 y8 y9)) ∧ (∀ y0 y1 y2 y3 y4 y5 y6 y7, LeO (hurdleref02_Parse.j5 k y0 y1 y2 y3 y4 y5 y6 y7) (hurdleref02_Parse.j5 (k + 1) y0 y1 y2 y3 y4 y5 y6 y7))
  | 0 => ⟨fun _ _ _ _ r h => by simp [hurdleref02_Parse.l0] at h, fun _ _ _ _ _ r h => by simp [hurdleref02_Parse.j1] at h, fun _ _ _ _ _ _ _ _ _ _ r h => by simp [hurdleref02_Parse.j2] at h, fun _ _ _ _ _ _ _ _ _ r h => by simp [hurdleref02_Parse.j3] at h, fun _ _ _ _ _ _ _ _ _ _ r h => by simp [hurdleref02_Parse.j4] at h, fun _ _ _ _ _ _ _ _ r h => by simp [hurdleref02_Parse.j5] at h⟩
  | k + 1 => by
    obtain ⟨ih0, ih1, ih2, ih3, ih4, ih5⟩ := hurdleref02_Parse.mono_l k
    refine ⟨?_, ?_, ?_, ?_, ?_, ?_⟩
    · intro y0 y1 y2 y3
      unfold hurdleref02_Parse.l0
      repeat' first
      | (with_reducible exact ih0 _ _ _ _)
      | (with_reducible exact ih1 _ _ _ _ _)
      | (with_reducible exact ih2 _ _ _ _ _ _ _ _ _ _)
      | (with_reducible exact ih3 _ _ _ _ _ _ _ _ _)
      | (with_reducible exact ih4 _ _ _ _ _ _ _ _ _ _)
      | (with_reducible exact ih5 _ _ _ _ _ _ _ _)
      | (with_reducible exact hurdleref01_Parse.mono _ _)
      | (with_reducible exact hurdleref02_Print.mono _ _ _ _ _)
      | (with_reducible exact hurdleref02_Right.mono _ _ _ _ _)
      | (with_reducible exact LeO.refl _)
      | (with_reducible exact LeO.none _)
      | (with_reducible refine LeO.ite ?_ ?_)
      | (with_reducible refine LeO.bind ?_ (fun _ => ?_))
      | exact ih0 _ _ _ _
      | exact ih1 _ _ _ _ _
      | exact ih2 _ _ _ _ _ _ _ _ _ _
      | exact ih3 _ _ _ _ _ _ _ _ _
      | exact ih4 _ _ _ _ _ _ _ _ _ _
      | exact ih5 _ _ _ _ _ _ _ _
      | exact hurdleref01_Parse.mono _ _
      | exact hurdleref02_Print.mono _ _ _ _ _
      | exact hurdleref02_Right.mono _ _ _ _ _
      | exact LeO.none _
      | refine LeO.ite ?_ ?_
      | refine LeO.bind ?_ (fun _ => ?_)
    · intro y0 y1 y2 y3 y4
      unfold hurdleref02_Parse.j1
      repeat' first
      | (with_reducible exact ih0 _ _ _ _)
      | (with_reducible exact ih1 _ _ _ _ _)
      | (with_reducible exact ih2 _ _ _ _ _ _ _ _ _ _)
      | (with_reducible exact ih3 _ _ _ _ _ _ _ _ _)
      | (with_reducible exact ih4 _ _ _ _ _ _ _ _ _ _)
      | (with_reducible exact ih5 _ _ _ _ _ _ _ _)
      | (with_reducible exact hurdleref01_Parse.mono _ _)
      | (with_reducible exact hurdleref02_Print.mono _ _ _ _ _)
      | (with_reducible exact hurdleref02_Right.mono _ _ _ _ _)
      | (with_reducible exact LeO.refl _)
      | (with_reducible exact LeO.none _)
      | (with_reducible refine LeO.ite ?_ ?_)
      | (with_reducible refine LeO.bind ?_ (fun _ => ?_))
      | exact ih0 _ _ _ _
      | exact ih1 _ _ _ _ _
      | exact ih2 _ _ _ _ _ _ _ _ _ _
      | exact ih3 _ _ _ _ _ _ _ _ _
      | exact ih4 _ _ _ _ _ _ _ _ _ _
      | exact ih5 _ _ _ _ _ _ _ _
      | exact hurdleref01_Parse.mono _ _
      | exact hurdleref02_Print.mono _ _ _ _ _
      | exact hurdleref02_Right.mono _ _ _ _ _
      | exact LeO.none _
      | refine LeO.ite ?_ ?_
      | refine LeO.bind ?_ (fun _ => ?_)
    · intro y0 y1 y2 y3 y4 y5 y6 y7 y8 y9
      unfold hurdleref02_Parse.j2
      repeat' first
      | (with_reducible exact ih0 _ _ _ _)
      | (with_reducible exact ih1 _ _ _ _ _)
      | (with_reducible exact ih2 _ _ _ _ _ _ _ _ _ _)
      | (with_reducible exact ih3 _ _ _ _ _ _ _ _ _)
      | (with_reducible exact ih4 _ _ _ _ _ _ _ _ _ _)
      | (with_reducible exact ih5 _ _ _ _ _ _ _ _)
      | (with_reducible exact hurdleref01_Parse.mono _ _)
      | (with_reducible exact hurdleref02_Print.mono _ _ _ _ _)
      | (with_reducible exact hurdleref02_Right.mono _ _ _ _ _)
      | (with_reducible exact LeO.refl _)
      | (with_reducible exact LeO.none _)
      | (with_reducible refine LeO.ite ?_ ?_)
      | (with_reducible refine LeO.bind ?_ (fun _ => ?_))
      | exact ih0 _ _ _ _
      | exact ih1 _ _ _ _ _
      | exact ih2 _ _ _ _ _ _ _ _ _ _
      | exact ih3 _ _ _ _ _ _ _ _ _
      | exact ih4 _ _ _ _ _ _ _ _ _ _
      | exact ih5 _ _ _ _ _ _ _ _
      | exact hurdleref01_Parse.mono _ _
      | exact hurdleref02_Print.mono _ _ _ _ _
      | exact hurdleref02_Right.mono _ _ _ _ _
      | exact LeO.none _
      | refine LeO.ite ?_ ?_
      | refine LeO.bind ?_ (fun _ => ?_)
    · intro y0 y1 y2 y3 y4 y5 y6 y7 y8
      unfold hurdleref02_Parse.j3
      repeat' first
      | (with_reducible exact ih0 _ _ _ _)
      | (with_reducible exact ih1 _ _ _ _ _)
      | (with_reducible exact ih2 _ _ _ _ _ _ _ _ _ _)
      | (with_reducible exact ih3 _ _ _ _ _ _ _ _ _)
      | (with_reducible exact ih4 _ _ _ _ _ _ _ _ _ _)
      | (with_reducible exact ih5 _ _ _ _ _ _ _ _)
      | (with_reducible exact hurdleref01_Parse.mono _ _)
      | (with_reducible exact hurdleref02_Print.mono _ _ _ _ _)
      | (with_reducible exact hurdleref02_Right.mono _ _ _ _ _)
      | (with_reducible exact LeO.refl _)
      | (with_reducible exact LeO.none _)
      | (with_reducible refine LeO.ite ?_ ?_)
      | (with_reducible refine LeO.bind ?_ (fun _ => ?_))
      | exact ih0 _ _ _ _
      | exact ih1 _ _ _ _ _
      | exact ih2 _ _ _ _ _ _ _ _ _ _
      | exact ih3 _ _ _ _ _ _ _ _ _
      | exact ih4 _ _ _ _ _ _ _ _ _ _
      | exact ih5 _ _ _ _ _ _ _ _
      | exact hurdleref01_Parse.mono _ _
      | exact hurdleref02_Print.mono _ _ _ _ _
      | exact hurdleref02_Right.mono _ _ _ _ _
      | exact LeO.none _
      | refine LeO.ite ?_ ?_
      | refine LeO.bind ?_ (fun _ => ?_)
    · intro y0 y1 y2 y3 y4 y5 y6 y7 y8 y9
      unfold hurdleref02_Parse.j4
      repeat' first
      | (with_reducible exact ih0 _ _ _ _)
      | (with_reducible exact ih1 _ _ _ _ _)
      | (with_reducible exact ih2 _ _ _ _ _ _ _ _ _ _)
      | (with_reducible exact ih3 _ _ _ _ _ _ _ _ _)
      | (with_reducible exact ih4 _ _ _ _ _ _ _ _ _ _)
      | (with_reducible exact ih5 _ _ _ _ _ _ _ _)
      | (with_reducible exact hurdleref01_Parse.mono _ _)
      | (with_reducible exact hurdleref02_Print.mono _ _ _ _ _)
      | (with_reducible exact hurdleref02_Right.mono _ _ _ _ _)
      | (with_reducible exact LeO.refl _)
      | (with_reducible exact LeO.none _)
      | (with_reducible refine LeO.ite ?_ ?_)
      | (with_reducible refine LeO.bind ?_ (fun _ => ?_))
      | exact ih0 _ _ _ _
      | exact ih1 _ _ _ _ _
      | exact ih2 _ _ _ _ _ _ _ _ _ _
      | exact ih3 _ _ _ _ _ _ _ _ _
      | exact ih4 _ _ _ _ _ _ _ _ _ _
      | exact ih5 _ _ _ _ _ _ _ _
      | exact hurdleref01_Parse.mono _ _
      | exact hurdleref02_Print.mono _ _ _ _ _
      | exact hurdleref02_Right.mono _ _ _ _ _
      | exact LeO.none _
      | refine LeO.ite ?_ ?_
      | refine LeO.bind ?_ (fun _ => ?_)
    · intro y0 y1 y2 y3 y4 y5 y6 y7
      unfold hurdleref02_Parse.j5
      repeat' first
      | (with_reducible exact ih0 _ _ _ _)
      | (with_reducible exact ih1 _ _ _ _ _)
      | (with_reducible exact ih2 _ _ _ _ _ _ _ _ _ _)
      | (with_reducible exact ih3 _ _ _ _ _ _ _ _ _)
      | (with_reducible exact ih4 _ _ _ _ _ _ _ _ _ _)
      | (with_reducible exact ih5 _ _ _ _ _ _ _ _)
      | (with_reducible exact hurdleref01_Parse.mono _ _)
      | (with_reducible exact hurdleref02_Print.mono _ _ _ _ _)
      | (with_reducible exact hurdleref02_Right.mono _ _ _ _ _)
      | (with_reducible exact LeO.refl _)
      | (with_reducible exact LeO.none _)
      | (with_reducible refine LeO.ite ?_ ?_)
      | (with_reducible refine LeO.bind ?_ (fun _ => ?_))
      | exact ih0 _ _ _ _
      | exact ih1 _ _ _ _ _
      | exact ih2 _ _ _ _ _ _ _ _ _ _
      | exact ih3 _ _ _ _ _ _ _ _ _
      | exact ih4 _ _ _ _ _ _ _ _ _ _
      | exact ih5 _ _ _ _ _ _ _ _
      | exact hurdleref01_Parse.mono _ _
      | exact hurdleref02_Print.mono _ _ _ _ _
      | exact hurdleref02_Right.mono _ _ _ _ _
      | exact LeO.none _
      | refine LeO.ite ?_ ?_
      | refine LeO.bind ?_ (fun _ => ?_)
theorem hurdleref02_Parse.mono_g : ∀ a0 a1 k, LeO (hurdleref02_Parse.g k a0 a1) (hurdleref02_Parse.g (k + 1) a0 a1) := by
  intro a0 a1 k
  obtain ⟨ih0, ih1, ih2, ih3, ih4, ih5⟩ := hurdleref02_Parse.mono_l k
  unfold hurdleref02_Parse.g
  repeat' first
      | (with_reducible exact ih0 _ _ _ _)
      | (with_reducible exact ih1 _ _ _ _ _)
      | (with_reducible exact ih2 _ _ _ _ _ _ _ _ _ _)
      | (with_reducible exact ih3 _ _ _ _ _ _ _ _ _)
      | (with_reducible exact ih4 _ _ _ _ _ _ _ _ _ _)
      | (with_reducible exact ih5 _ _ _ _ _ _ _ _)
      | (with_reducible exact hurdleref01_Parse.mono _ _)
      | (with_reducible exact hurdleref02_Print.mono _ _ _ _ _)
      | (with_reducible exact hurdleref02_Right.mono _ _ _ _ _)
      | (with_reducible exact LeO.refl _)
      | (with_reducible exact LeO.none _)
      | (with_reducible refine LeO.ite ?_ ?_)
      | (with_reducible refine LeO.bind ?_ (fun _ => ?_))
      | exact ih0 _ _ _ _
      | exact ih1 _ _ _ _ _
      | exact ih2 _ _ _ _ _ _ _ _ _ _
      | exact ih3 _ _ _ _ _ _ _ _ _
      | exact ih4 _ _ _ _ _ _ _ _ _ _
      | exact ih5 _ _ _ _ _ _ _ _
      | exact hurdleref01_Parse.mono _ _
      | exact hurdleref02_Print.mono _ _ _ _ _
      | exact hurdleref02_Right.mono _ _ _ _ _
      | exact LeO.none _
      | refine LeO.ite ?_ ?_
      | refine LeO.bind ?_ (fun _ => ?_)
def hurdleref02_Parse.f (k : Nat) (a0 : ByteArray) : Option (Int × Int × Int × Int × Bool) := (hurdleref02_Cut.f k a0 32).bind fun l1 => hurdleref02_Parse.g k a0 l1
theorem hurdleref02_Parse.mono : ∀ a0 k, LeO (hurdleref02_Parse.f k a0) (hurdleref02_Parse.f (k + 1) a0) := fun a0 k => LeO.bind (hurdleref02_Cut.mono a0 32 k) (fun _ => hurdleref02_Parse.mono_g _ _ k)
set_option maxHeartbeats 8000000 in
set_option maxRecDepth 100000 in
theorem hurdleref02_Parse.calls (k : Nat) (a0 : ByteArray) (r1 : Int) (r2 : Int) (r3 : Int) (r4 : Int) (r5 : Bool) (w : World) (h : hurdleref02_Parse.f k a0 = some (r1, r2, r3, r4, r5)) :
    Calls Tryd.prog 25 #[.string a0] w fun e w' => e = .returned (.tuple #[.agg #[.int .i64 r1, .int .i64 r2, .int .i64 r3, .int .u32 r4], .bool r5]) ∧ Below w.heap.size w w' := by
  have hu48 := Tryd.underlying48
  obtain ⟨l1, hS, h⟩ := Option.bind_eq_some_iff.mp h
  have HS := Aside0.mk hS
  clear hS
  obtain ⟨P1_, hP1⟩ : ∃ P : Nat → Prop, ∀ k, P k := ⟨fun _ => True, fun _ => trivial⟩
  have HB := Aside0.mk (Below.refl w.heap.size w)
  have H : ((hurdleref02_Words.f).bind fun t143 => (hurdleref02_Parse.l0 k a0 l1 t143 0)) = some (r1, r2, r3, r4, r5) := h
  clear h
  replace H := Option.bind_eq_some_iff.mp H
  obtain ⟨t143, A30, H⟩ := H
  replace H : (hurdleref02_Parse.l0 k a0 l1 t143 0) = some (r1, r2, r3, r4, r5) := H
  have A3 := Aside0.mk A30
  clear A30
  have H' := Aside0.mk H
  clear H
  go_enter Tryd.func25, Tryd.ntmps25
  go_wp2_with (first | ((with_reducible refine gate_dst (N := 2) rfl ?_); (try (refine gate_guard (by rfl) ?_; dsimp only)); refine box_event ?hg (N := 2) ?hd (cs := #[.int .i64 0, .int .i64 0, .int .i64 0, .int .u32 0]) (t := 48) ?hr ?_; (case hd => rfl); (case hg => rfl); (case hr => first | (go_simp; done) | (go_simp; rfl)); intro gb142 hg w4 hbox hb; have n1_ := Aside0.mk (below_step (by repeat (first | (with_reducible first | exact HB.out | apply below_alloc | apply pw_below_drewN | apply below_drew1) | exact HB.out)) hb); have n2_ := Aside0.mk (hbox); have n3_ := Aside0.mk ((by rw [hg]; exact (below_size (by repeat (first | (with_reducible first | exact HB.out | apply below_alloc | apply pw_below_drewN | apply below_drew1) | exact HB.out))) : w.heap.size ≤ gb142)); have n4_ := Aside0.mk ((by rw [hg]; exact (below_size (by repeat (first | (with_reducible first | exact HB.out | apply below_alloc | apply pw_below_drewN | apply below_drew1) | exact HB.out))) : w.heap.size ≤ gb142)); clear HB; have HB := n1_; have BK142 := n2_; have GW142 := n3_; have GE142 := n4_; clear n1_ n2_ n3_ n4_; clear hb hbox hg) | (go_at_call 24; (with_reducible refine (hurdleref02_Cut.calls k a0 32 l1 _ HS.out).mono ?_); rintro e wz ⟨vS, rfl, hRS, hbw⟩; obtain ⟨A1, c1, rfl⟩ := Kd.R_slice hRS; have n0_ := Aside0.mk (Kd.V_mono (Kd.R_V (base' := w.heap.size) (Kd.R_newM (M := fun k_ => w.heap.size ≤ k_ ∧ k_ ≠ gb142) hRS (Nat.le_refl _) (fun k_ hk_ => ⟨Nat.le_trans (below_size (by repeat (first | (with_reducible first | exact HB.out | apply below_alloc | apply pw_below_drewN | apply below_drew1 | refine below_set ?_ GE142.out) | exact HB.out))) hk_, fun hq_ => absurd (hq_ ▸ hk_) (Nat.not_le_of_lt (isLt_of_some (by (with_reducible repeat (first | refine blk_drewN ?_ _ | refine blk_drew ?_ | refine blk_alloc ?_ _)); exact BK142.out)))⟩))) (ok' := fun k_ => (P1_ k_ ∨ w.heap.size ≤ k_) ∧ k_ ≠ gb142) (fun k_ hk_ => ⟨.inl (hP1 k_), hk_.1.2⟩)); have n1_ := Aside0.mk (blk_below (g := gb142) (o := .cells #[.int .i64 0, .int .i64 0, .int .i64 0, .int .u32 0] 48 (0, 0)) (by (with_reducible repeat (first | refine blk_drewN ?_ _ | refine blk_drew ?_ | refine blk_alloc ?_ _)); exact BK142.out) hbw); have n2_ := Aside0.mk (below_step (by repeat (first | (with_reducible first | exact HB.out | apply below_alloc | apply pw_below_drewN | apply below_drew1 | refine below_set ?_ GE142.out) | exact HB.out)) hbw); clear BK142; clear HB; have HO1 := n0_; have BK142 := n1_; have HB := n2_; clear n0_ n1_ n2_; clear hRS hbw) | (go_at_call 37; (with_reducible refine (hurdleref02_Words.calls  t143 _ A3.out).mono ?_); rintro e w5 ⟨v144, rfl, ho0, hb⟩; have n0_ := Aside0.mk (Kd.V_elder' (by (with_reducible repeat (first | apply Kd.V_alloc | apply Kd.V_drewN | apply Kd.V_drew)); exact HO1.out) (Kd.R_base ho0) hb); have n1_ := Aside0.mk (Kd.R_lower (Kd.R_newM (M := fun k_ => (w.heap.size ≤ k_)) ho0 (below_size (by repeat (first | (with_reducible first | exact HB.out | apply below_alloc | apply pw_below_drewN | apply below_drew1 | refine below_set ?_ GE142.out) | exact HB.out))) (fun k_ h_ => h_)) (below_size (by repeat (first | (with_reducible first | exact HB.out | apply below_alloc | apply pw_below_drewN | apply below_drew1 | refine below_set ?_ GE142.out) | exact HB.out)))); have n2_ := Aside0.mk (blk_below (g := gb142) (o := .cells #[.int .i64 0, .int .i64 0, .int .i64 0, .int .u32 0] 48 (0, 0)) (by (with_reducible repeat (first | refine blk_drewN ?_ _ | refine blk_drew ?_ | refine blk_alloc ?_ _)); exact BK142.out) hb); have n3_ := Aside0.mk (below_step (by repeat (first | (with_reducible first | exact HB.out | apply below_alloc | apply pw_below_drewN | apply below_drew1 | refine below_set ?_ GE142.out) | exact HB.out)) hb); clear HO1; clear BK142; clear HB; have HO1 := n0_; have HO145 := n1_; have BK142 := n2_; have HB := n3_; clear n0_ n1_ n2_ n3_; (try clear hb); (try clear hb2); (try clear hk); (try clear hi); (try clear ho0)))
  repeat (go_quiet (first | ((with_reducible refine gate_dst (N := 2) rfl ?_); (try (refine gate_guard (by rfl) ?_; dsimp only)); refine box_event ?hg (N := 2) ?hd (cs := #[.int .i64 0, .int .i64 0, .int .i64 0, .int .u32 0]) (t := 48) ?hr ?_; (case hd => rfl); (case hg => rfl); (case hr => first | (go_simp; done) | (go_simp; rfl)); intro gb142 hg w4 hbox hb; have n1_ := Aside0.mk (below_step (by repeat (first | (with_reducible first | exact HB.out | apply below_alloc | apply pw_below_drewN | apply below_drew1) | exact HB.out)) hb); have n2_ := Aside0.mk (hbox); have n3_ := Aside0.mk ((by rw [hg]; exact (below_size (by repeat (first | (with_reducible first | exact HB.out | apply below_alloc | apply pw_below_drewN | apply below_drew1) | exact HB.out))) : w.heap.size ≤ gb142)); have n4_ := Aside0.mk ((by rw [hg]; exact (below_size (by repeat (first | (with_reducible first | exact HB.out | apply below_alloc | apply pw_below_drewN | apply below_drew1) | exact HB.out))) : w.heap.size ≤ gb142)); clear HB; have HB := n1_; have BK142 := n2_; have GW142 := n3_; have GE142 := n4_; clear n1_ n2_ n3_ n4_; clear hb hbox hg) | (go_at_call 24; (with_reducible refine (hurdleref02_Cut.calls k a0 32 l1 _ HS.out).mono ?_); rintro e wz ⟨vS, rfl, hRS, hbw⟩; obtain ⟨A1, c1, rfl⟩ := Kd.R_slice hRS; have n0_ := Aside0.mk (Kd.V_mono (Kd.R_V (base' := w.heap.size) (Kd.R_newM (M := fun k_ => w.heap.size ≤ k_ ∧ k_ ≠ gb142) hRS (Nat.le_refl _) (fun k_ hk_ => ⟨Nat.le_trans (below_size (by repeat (first | (with_reducible first | exact HB.out | apply below_alloc | apply pw_below_drewN | apply below_drew1 | refine below_set ?_ GE142.out) | exact HB.out))) hk_, fun hq_ => absurd (hq_ ▸ hk_) (Nat.not_le_of_lt (isLt_of_some (by (with_reducible repeat (first | refine blk_drewN ?_ _ | refine blk_drew ?_ | refine blk_alloc ?_ _)); exact BK142.out)))⟩))) (ok' := fun k_ => (P1_ k_ ∨ w.heap.size ≤ k_) ∧ k_ ≠ gb142) (fun k_ hk_ => ⟨.inl (hP1 k_), hk_.1.2⟩)); have n1_ := Aside0.mk (blk_below (g := gb142) (o := .cells #[.int .i64 0, .int .i64 0, .int .i64 0, .int .u32 0] 48 (0, 0)) (by (with_reducible repeat (first | refine blk_drewN ?_ _ | refine blk_drew ?_ | refine blk_alloc ?_ _)); exact BK142.out) hbw); have n2_ := Aside0.mk (below_step (by repeat (first | (with_reducible first | exact HB.out | apply below_alloc | apply pw_below_drewN | apply below_drew1 | refine below_set ?_ GE142.out) | exact HB.out)) hbw); clear BK142; clear HB; have HO1 := n0_; have BK142 := n1_; have HB := n2_; clear n0_ n1_ n2_; clear hRS hbw) | (go_at_call 37; (with_reducible refine (hurdleref02_Words.calls  t143 _ A3.out).mono ?_); rintro e w5 ⟨v144, rfl, ho0, hb⟩; have n0_ := Aside0.mk (Kd.V_elder' (by (with_reducible repeat (first | apply Kd.V_alloc | apply Kd.V_drewN | apply Kd.V_drew)); exact HO1.out) (Kd.R_base ho0) hb); have n1_ := Aside0.mk (Kd.R_lower (Kd.R_newM (M := fun k_ => (w.heap.size ≤ k_)) ho0 (below_size (by repeat (first | (with_reducible first | exact HB.out | apply below_alloc | apply pw_below_drewN | apply below_drew1 | refine below_set ?_ GE142.out) | exact HB.out))) (fun k_ h_ => h_)) (below_size (by repeat (first | (with_reducible first | exact HB.out | apply below_alloc | apply pw_below_drewN | apply below_drew1 | refine below_set ?_ GE142.out) | exact HB.out)))); have n2_ := Aside0.mk (blk_below (g := gb142) (o := .cells #[.int .i64 0, .int .i64 0, .int .i64 0, .int .u32 0] 48 (0, 0)) (by (with_reducible repeat (first | refine blk_drewN ?_ _ | refine blk_drew ?_ | refine blk_alloc ?_ _)); exact BK142.out) hb); have n3_ := Aside0.mk (below_step (by repeat (first | (with_reducible first | exact HB.out | apply below_alloc | apply pw_below_drewN | apply below_drew1 | refine below_set ?_ GE142.out) | exact HB.out)) hb); clear HO1; clear BK142; clear HB; have HO1 := n0_; have HO145 := n1_; have BK142 := n2_; have HB := n3_; clear n0_ n1_ n2_ n3_; (try clear hb); (try clear hb2); (try clear hk); (try clear hi); (try clear ho0))); try go_wp2_with (first | ((with_reducible refine gate_dst (N := 2) rfl ?_); (try (refine gate_guard (by rfl) ?_; dsimp only)); refine box_event ?hg (N := 2) ?hd (cs := #[.int .i64 0, .int .i64 0, .int .i64 0, .int .u32 0]) (t := 48) ?hr ?_; (case hd => rfl); (case hg => rfl); (case hr => first | (go_simp; done) | (go_simp; rfl)); intro gb142 hg w4 hbox hb; have n1_ := Aside0.mk (below_step (by repeat (first | (with_reducible first | exact HB.out | apply below_alloc | apply pw_below_drewN | apply below_drew1) | exact HB.out)) hb); have n2_ := Aside0.mk (hbox); have n3_ := Aside0.mk ((by rw [hg]; exact (below_size (by repeat (first | (with_reducible first | exact HB.out | apply below_alloc | apply pw_below_drewN | apply below_drew1) | exact HB.out))) : w.heap.size ≤ gb142)); have n4_ := Aside0.mk ((by rw [hg]; exact (below_size (by repeat (first | (with_reducible first | exact HB.out | apply below_alloc | apply pw_below_drewN | apply below_drew1) | exact HB.out))) : w.heap.size ≤ gb142)); clear HB; have HB := n1_; have BK142 := n2_; have GW142 := n3_; have GE142 := n4_; clear n1_ n2_ n3_ n4_; clear hb hbox hg) | (go_at_call 24; (with_reducible refine (hurdleref02_Cut.calls k a0 32 l1 _ HS.out).mono ?_); rintro e wz ⟨vS, rfl, hRS, hbw⟩; obtain ⟨A1, c1, rfl⟩ := Kd.R_slice hRS; have n0_ := Aside0.mk (Kd.V_mono (Kd.R_V (base' := w.heap.size) (Kd.R_newM (M := fun k_ => w.heap.size ≤ k_ ∧ k_ ≠ gb142) hRS (Nat.le_refl _) (fun k_ hk_ => ⟨Nat.le_trans (below_size (by repeat (first | (with_reducible first | exact HB.out | apply below_alloc | apply pw_below_drewN | apply below_drew1 | refine below_set ?_ GE142.out) | exact HB.out))) hk_, fun hq_ => absurd (hq_ ▸ hk_) (Nat.not_le_of_lt (isLt_of_some (by (with_reducible repeat (first | refine blk_drewN ?_ _ | refine blk_drew ?_ | refine blk_alloc ?_ _)); exact BK142.out)))⟩))) (ok' := fun k_ => (P1_ k_ ∨ w.heap.size ≤ k_) ∧ k_ ≠ gb142) (fun k_ hk_ => ⟨.inl (hP1 k_), hk_.1.2⟩)); have n1_ := Aside0.mk (blk_below (g := gb142) (o := .cells #[.int .i64 0, .int .i64 0, .int .i64 0, .int .u32 0] 48 (0, 0)) (by (with_reducible repeat (first | refine blk_drewN ?_ _ | refine blk_drew ?_ | refine blk_alloc ?_ _)); exact BK142.out) hbw); have n2_ := Aside0.mk (below_step (by repeat (first | (with_reducible first | exact HB.out | apply below_alloc | apply pw_below_drewN | apply below_drew1 | refine below_set ?_ GE142.out) | exact HB.out)) hbw); clear BK142; clear HB; have HO1 := n0_; have BK142 := n1_; have HB := n2_; clear n0_ n1_ n2_; clear hRS hbw) | (go_at_call 37; (with_reducible refine (hurdleref02_Words.calls  t143 _ A3.out).mono ?_); rintro e w5 ⟨v144, rfl, ho0, hb⟩; have n0_ := Aside0.mk (Kd.V_elder' (by (with_reducible repeat (first | apply Kd.V_alloc | apply Kd.V_drewN | apply Kd.V_drew)); exact HO1.out) (Kd.R_base ho0) hb); have n1_ := Aside0.mk (Kd.R_lower (Kd.R_newM (M := fun k_ => (w.heap.size ≤ k_)) ho0 (below_size (by repeat (first | (with_reducible first | exact HB.out | apply below_alloc | apply pw_below_drewN | apply below_drew1 | refine below_set ?_ GE142.out) | exact HB.out))) (fun k_ h_ => h_)) (below_size (by repeat (first | (with_reducible first | exact HB.out | apply below_alloc | apply pw_below_drewN | apply below_drew1 | refine below_set ?_ GE142.out) | exact HB.out)))); have n2_ := Aside0.mk (blk_below (g := gb142) (o := .cells #[.int .i64 0, .int .i64 0, .int .i64 0, .int .u32 0] 48 (0, 0)) (by (with_reducible repeat (first | refine blk_drewN ?_ _ | refine blk_drew ?_ | refine blk_alloc ?_ _)); exact BK142.out) hb); have n3_ := Aside0.mk (below_step (by repeat (first | (with_reducible first | exact HB.out | apply below_alloc | apply pw_below_drewN | apply below_drew1 | refine below_set ?_ GE142.out) | exact HB.out)) hb); clear HO1; clear BK142; clear HB; have HO1 := n0_; have HO145 := n1_; have BK142 := n2_; have HB := n3_; clear n0_ n1_ n2_ n3_; (try clear hb); (try clear hb2); (try clear hk); (try clear hi); (try clear ho0))))
  go_loopg [6] k (fun kq v6 w' => ∃ (x6_1 : Int) (x143000_1 : Int) (x143001_1 : Int) (x143002_1 : Int) (x143003_1 : Int), v6 = .int .i64 x6_1 ∧ Aside0 (hurdleref02_Parse.l0 kq a0 l1 t143 x6_1 = some (r1, r2, r3, r4, r5)) ∧ Aside0 (kq ≤ k) ∧ Aside0 (Kd.V Kd.string 9 w' w.heap.size (fun k_ => (P1_ k_ ∨ w.heap.size ≤ k_) ∧ some k_ ≠ (v144 : Value).ownBlock ∧ k_ ≠ gb142) (.slice A1 l1.length c1) l1) ∧ Aside0 (Kd.R Kd.string 9 w' w.heap.size (fun k_ => (w.heap.size ≤ k_)) v144 t143) ∧ Aside0 (w'.heap[gb142]? = some (.cells #[.int .i64 x143000_1, .int .i64 x143001_1, .int .i64 x143002_1, .int .u32 x143003_1] 48 (0, 0))) ∧ Aside0 (Below w.heap.size w w'))
  case atStart => exact ⟨(0), (0), (0), (0), (0), (by first | rfl | (simp; done) | (simp [*]; done)), H', ⟨Nat.le_refl _⟩, ⟨by (with_reducible repeat (first | apply Kd.V_alloc | apply Kd.V_drewN | apply Kd.V_drew)); exact Kd.V_mono HO1.out (fun _ hk => ⟨hk.1.1, ⟨hk.2, hk.1.2⟩⟩)⟩, ⟨by (with_reducible repeat (first | apply Kd.R_alloc | apply Kd.R_drewN | apply Kd.R_drew)); exact Kd.R_mono HO145.out (fun _ hk => hk.1)⟩, ⟨by (with_reducible repeat (first | refine blk_drewN ?_ _ | refine blk_drew ?_ | refine blk_alloc ?_ _)); exact BK142.out⟩, ⟨by repeat (first | (with_reducible first | exact HB.out | apply below_alloc | apply pw_below_drewN | apply below_drew1 | refine below_set ?_ GE142.out) | exact HB.out)⟩⟩
  case round =>
    clear H'
    try clear c1
    try clear c2
    try clear p2
    obtain ⟨x6_1, x143000_1, x143001_1, x143002_1, x143003_1, rfl, HA, HK1, HO_4, HO_5, BK142, HB⟩ := hrel
    cases gk with
    | zero => exact absurd HA.out (by simp [hurdleref02_Parse.l0])
    | succ k1 =>
      have H := HA.out
      clear HA
      simp only [hurdleref02_Parse.l0] at H
      by_cases c6 : x6_1 < (t143.length : Int)
      · rw [if_pos c6] at H
        have c6b0 : decide (x6_1 < (t143.length : Int)) = true := decide_eq_true c6
        clear c6
        have HC7 := Aside0.mk H
        clear H
        obtain ⟨Ao8, co8, eo8⟩ := Kd.R_slice HO_5.out
        subst eo8
        go_upto_region 6 with (fail)
        repeat (go_quiet (fail); go_upto_region 6 with (fail))
        go_cut [36] (fun v36 wc => ∃ (kq : Nat) (x36_6 : Bool), v36 = .bool x36_6 ∧ Aside0 (hurdleref02_Parse.j1 kq a0 l1 t143 x6_1 x36_6 = some (r1, r2, r3, r4, r5)) ∧ Aside0 (kq ≤ k1) ∧ Aside0 (Kd.V Kd.string 9 wc w.heap.size (fun k_ => (P1_ k_ ∨ w.heap.size ≤ k_) ∧ some k_ ≠ ((.slice Ao8 t143.length co8) : Value).ownBlock ∧ k_ ≠ gb142) (.slice A1 l1.length c1) l1) ∧ Aside0 (Kd.R Kd.string 9 wc w.heap.size (fun k_ => (w.heap.size ≤ k_)) (.slice Ao8 t143.length co8) t143) ∧ Aside0 (wc.heap[gb142]? = some (.cells #[.int .i64 x143000_1, .int .i64 x143001_1, .int .i64 x143002_1, .int .u32 x143003_1] 48 (0, 0))) ∧ Aside0 (Below w.heap.size w wc))
        case first =>
          have H := HC7.out
          clear HC7
          by_cases c9 : 0 ≤ x6_1
          · rw [if_pos c9] at H
            have c9b0 : decide (0 ≤ x6_1) = true := decide_eq_true c9
            clear c9
            (first | rw [c9b0] | (simp only [i64_w, i32_w]; rw [c9b0]) | skip)
            by_cases c10 : 0 < (l1.length : Int)
            · rw [if_pos c10] at H
              have c10b0 : decide (0 < (l1.length : Int)) = true := decide_eq_true c10
              have c10b1 : decide (0 < l1.length) = true := decide_eq_true (by omega)
              clear c10
              by_cases c11 : (rdOf ByteArray.empty t143 x6_1).toList = (rdOf ByteArray.empty l1 0).toList
              · rw [if_pos c11] at H
                have c11b0 : ((rdOf ByteArray.empty t143 x6_1).toList == (rdOf ByteArray.empty l1 0).toList) = true := beq_iff_eq.mpr c11
                have c11b1 : ((rdOf ByteArray.empty t143 x6_1).toList != (rdOf ByteArray.empty l1 0).toList) = false := bne_eq_false_iff_eq.mpr c11
                clear c11
                have H' := Aside0.mk H
                clear H
                have p146 : 0 ≤ (x6_1 : Int) := of_decide_eq_true (by first | (with_reducible assumption) | assumption)
                have q146 : x6_1 < (t143.length : Int) := of_decide_eq_true (by first | (with_reducible assumption) | assumption)
                obtain ⟨ad146, e146, hx146_0⟩ := Kd.at_string (Kd.R_reads' HO_5.out).2.2 x6_1 p146 q146
                cases e146
                replace p146 := eq_true p146
                replace q146 := eq_true q146
                have p147 : 0 ≤ (0 : Int) := (by omega)
                have q147 : 0 < (l1.length : Int) := of_decide_eq_true (by first | (with_reducible assumption) | assumption)
                obtain ⟨ad147, e147, hx147_0⟩ := Kd.at_string (Kd.V_reads' HO_4.out).2.2 0 p147 q147
                cases e147
                have qi147 : (0 < l1.length) = True := eq_true (by omega)
                (try rw [show ((0 : Int)).toNat = 0 from rfl] at hx147_0)
                (try rw [Addr.add_zero'] at hx147_0)
                replace p147 := eq_true p147
                replace q147 := eq_true q147
                go_wp2
                repeat (go_quiet (fail); try go_wp2)
                go_meet
                case rel => exact ⟨_, (decide ((l1.length : Int) > 4)), (by first | rfl | (simp; done) | (simp [*]; done)), H', ⟨by have := HK1.out; first | omega | exact Nat.le_refl _⟩, ⟨by (with_reducible repeat (first | apply Kd.V_alloc | apply Kd.V_drewN | apply Kd.V_drew)); exact HO_4.out⟩, ⟨by (with_reducible repeat (first | apply Kd.R_alloc | apply Kd.R_drewN | apply Kd.R_drew)); exact HO_5.out⟩, ⟨by (with_reducible repeat (first | refine blk_drewN ?_ _ | refine blk_drew ?_ | refine blk_alloc ?_ _)); exact BK142.out⟩, ⟨by repeat (first | (with_reducible first | exact HB.out | apply below_alloc | apply pw_below_drewN | apply below_drew1 | refine below_set ?_ GE142.out) | exact HB.out)⟩⟩
              · rw [if_neg c11] at H
                have c11b0 : ((rdOf ByteArray.empty t143 x6_1).toList == (rdOf ByteArray.empty l1 0).toList) = false := beq_eq_false_iff_ne.mpr c11
                have c11b1 : ((rdOf ByteArray.empty t143 x6_1).toList != (rdOf ByteArray.empty l1 0).toList) = true := bne_iff_ne.mpr c11
                have H' := Aside0.mk H
                clear H
                have p146 : 0 ≤ (x6_1 : Int) := of_decide_eq_true (by first | (with_reducible assumption) | assumption)
                have q146 : x6_1 < (t143.length : Int) := of_decide_eq_true (by first | (with_reducible assumption) | assumption)
                obtain ⟨ad146, e146, hx146_0⟩ := Kd.at_string (Kd.R_reads' HO_5.out).2.2 x6_1 p146 q146
                cases e146
                replace p146 := eq_true p146
                replace q146 := eq_true q146
                have p147 : 0 ≤ (0 : Int) := (by omega)
                have q147 : 0 < (l1.length : Int) := of_decide_eq_true (by first | (with_reducible assumption) | assumption)
                obtain ⟨ad147, e147, hx147_0⟩ := Kd.at_string (Kd.V_reads' HO_4.out).2.2 0 p147 q147
                cases e147
                have qi147 : (0 < l1.length) = True := eq_true (by omega)
                (try rw [show ((0 : Int)).toNat = 0 from rfl] at hx147_0)
                (try rw [Addr.add_zero'] at hx147_0)
                replace p147 := eq_true p147
                replace q147 := eq_true q147
                go_wp2
                repeat (go_quiet (fail); try go_wp2)
                go_meet
                case rel => exact ⟨_, (true), (by first | rfl | (simp; done) | (simp [*]; done)), H', ⟨by have := HK1.out; first | omega | exact Nat.le_refl _⟩, ⟨by (with_reducible repeat (first | apply Kd.V_alloc | apply Kd.V_drewN | apply Kd.V_drew)); exact HO_4.out⟩, ⟨by (with_reducible repeat (first | apply Kd.R_alloc | apply Kd.R_drewN | apply Kd.R_drew)); exact HO_5.out⟩, ⟨by (with_reducible repeat (first | refine blk_drewN ?_ _ | refine blk_drew ?_ | refine blk_alloc ?_ _)); exact BK142.out⟩, ⟨by repeat (first | (with_reducible first | exact HB.out | apply below_alloc | apply pw_below_drewN | apply below_drew1 | refine below_set ?_ GE142.out) | exact HB.out)⟩⟩
            · rw [if_neg c10] at H
              exact absurd H (by simp)
          · rw [if_neg c9] at H
            exact absurd H (by simp)
        case rest =>
          clear HC7
          try clear c1
          try clear p1
          try clear q1
          try clear hx1
          try clear qi1
          try clear c2
          try clear p2
          try clear c6
          try clear c6b0
          try clear c9
          try clear c9b0
          try clear c10
          try clear c10b0
          try clear c10b1
          try clear c11
          try clear c11b0
          try clear c11b1
          try clear hx146_0
          try clear hx147_0
          try clear p146
          try clear p147
          try clear p2
          try clear q146
          try clear q147
          obtain ⟨kq, x36_6, rfl, HA, HJ6, HO_4, HO_5, BK142, HB⟩ := hcut
          cases kq with
          | zero => exact absurd HA.out (by simp [hurdleref02_Parse.j1])
          | succ kj6 =>
            have H := HA.out
            clear HA
            simp only [hurdleref02_Parse.j1] at H
            by_cases c12 : x36_6 = true
            · subst c12
              have H1 : (hurdleref02_Parse.l0 kj6 a0 l1 t143 (wrap64 (x6_1 + 1))) = some (r1, r2, r3, r4, r5) := by rw [if_pos rfl] at H; exact H
              clear H
              have H := H1
              clear H1
              have H' := Aside0.mk H
              clear H
              go_wp2
              repeat (go_quiet (fail); try go_wp2)
              go_roundg kj6
              case measure => have := HK1.out; have := HJ6.out; omega
              case rel => exact ⟨(wrap64 (x6_1 + 1)), (x143000_1), (x143001_1), (x143002_1), (x143003_1), (by first | rfl | (simp; done) | (simp [*]; done)), H', ⟨by have := HK1.out; have := HJ6.out; omega⟩, ⟨by (with_reducible repeat (first | apply Kd.V_alloc | apply Kd.V_drewN | apply Kd.V_drew)); exact HO_4.out⟩, ⟨by (with_reducible repeat (first | apply Kd.R_alloc | apply Kd.R_drewN | apply Kd.R_drew)); exact HO_5.out⟩, ⟨by (with_reducible repeat (first | refine blk_drewN ?_ _ | refine blk_drew ?_ | refine blk_alloc ?_ _)); exact BK142.out⟩, ⟨by repeat (first | (with_reducible first | exact HB.out | apply below_alloc | apply pw_below_drewN | apply below_drew1 | refine below_set ?_ GE142.out) | exact HB.out)⟩⟩
            · replace c12 := Bool.eq_false_iff.mpr c12
              subst c12
              have H1 : ((hurdleref02_Ops.f).bind fun t148 => (if 0 ≤ x6_1 then (if x6_1 < (t148.length : Int) then (if 1 ≤ (l1.length : Int) then ((some (l1.drop 1 : List ByteArray)).bind fun y153 => ((hurdleref02_plain.f x6_1).bind fun t158 => (if t158 = true then (hurdleref02_Parse.j2 kj6 a0 l1 t143 x6_1 y153 false (rd t148 x6_1) 0 0 0) else (hurdleref02_Parse.j2 kj6 a0 l1 t143 x6_1 y153 (decide ((y153.length : Int) > 0)) (rd t148 x6_1) 0 0 0)))) else (none)) else (none)) else (none))) = some (r1, r2, r3, r4, r5) := by rw [if_neg (show ¬ (false = true) by decide)] at H; exact H
              clear H
              have H := H1
              clear H1
              replace H := Option.bind_eq_some_iff.mp H
              obtain ⟨t148, A130, H⟩ := H
              replace H : (if 0 ≤ x6_1 then (if x6_1 < (t148.length : Int) then (if 1 ≤ (l1.length : Int) then ((some (l1.drop 1 : List ByteArray)).bind fun y153 => ((hurdleref02_plain.f x6_1).bind fun t158 => (if t158 = true then (hurdleref02_Parse.j2 kj6 a0 l1 t143 x6_1 y153 false (rd t148 x6_1) 0 0 0) else (hurdleref02_Parse.j2 kj6 a0 l1 t143 x6_1 y153 (decide ((y153.length : Int) > 0)) (rd t148 x6_1) 0 0 0)))) else (none)) else (none)) else (none)) = some (r1, r2, r3, r4, r5) := H
              have A13 := Aside0.mk A130
              clear A130
              by_cases c14 : 0 ≤ x6_1
              · rw [if_pos c14] at H
                have c14b0 : decide (0 ≤ x6_1) = true := decide_eq_true c14
                clear c14
                by_cases c15 : x6_1 < (t148.length : Int)
                · rw [if_pos c15] at H
                  have c15b0 : decide (x6_1 < (t148.length : Int)) = true := decide_eq_true c15
                  clear c15
                  by_cases c16 : 1 ≤ (l1.length : Int)
                  · rw [if_pos c16] at H
                    have c16b0 := eq_true c16
                    have c16b1 : decide (1 ≤ (l1.length : Int)) = true := decide_eq_true c16
                    clear c16
                    obtain ⟨y153, hy153⟩ : ∃ y_ : List ByteArray, y_ = (l1.drop 1) := ⟨_, rfl⟩
                    replace H : ((hurdleref02_plain.f x6_1).bind fun t158 => (if t158 = true then (hurdleref02_Parse.j2 kj6 a0 l1 t143 x6_1 y153 false (rd t148 x6_1) 0 0 0) else (hurdleref02_Parse.j2 kj6 a0 l1 t143 x6_1 y153 (decide ((y153.length : Int) > 0)) (rd t148 x6_1) 0 0 0))) = some (r1, r2, r3, r4, r5) := by first | (rw [hy153]; with_reducible exact H) | (have H2_ := (Option.bind_some _ _).symm.trans H; rw [hy153]; with_reducible exact H2_) | (have H2_ := (Option.bind_some _ _).symm.trans H; with_reducible exact H2_) | with_reducible exact H | (rw [hy153]; exact H) | exact H
                    have Ny153 := Aside0.mk hy153
                    clear hy153
                    have HC17 := Aside0.mk H
                    clear H
                    go_upto_region 9 with (first | (go_at_call 38; (with_reducible refine (hurdleref02_Ops.calls  t148 _ A13.out).mono ?_); rintro e w18 ⟨v149, rfl, ho0, hb⟩; have n0_ := Aside0.mk (Kd.V_elder' (by (with_reducible repeat (first | apply Kd.V_alloc | apply Kd.V_drewN | apply Kd.V_drew)); exact HO_4.out) (Kd.R_base ho0) hb); have n1_ := Aside0.mk (Kd.R_below (by (with_reducible repeat (first | apply Kd.R_alloc | apply Kd.R_drewN | apply Kd.R_drew)); exact HO_5.out) hb); have n2_ := Aside0.mk (Kd.R_lower (Kd.R_newM (M := fun k_ => (w.heap.size ≤ k_)) ho0 (below_size (by repeat (first | (with_reducible first | exact HB.out | apply below_alloc | apply pw_below_drewN | apply below_drew1 | refine below_set ?_ GE142.out) | exact HB.out))) (fun k_ h_ => h_)) (below_size (by repeat (first | (with_reducible first | exact HB.out | apply below_alloc | apply pw_below_drewN | apply below_drew1 | refine below_set ?_ GE142.out) | exact HB.out)))); have n3_ := Aside0.mk (blk_below (g := gb142) (o := .cells #[.int .i64 x143000_1, .int .i64 x143001_1, .int .i64 x143002_1, .int .u32 x143003_1] 48 (0, 0)) (by (with_reducible repeat (first | refine blk_drewN ?_ _ | refine blk_drew ?_ | refine blk_alloc ?_ _)); exact BK142.out) hb); have n4_ := Aside0.mk (below_step (by repeat (first | (with_reducible first | exact HB.out | apply below_alloc | apply pw_below_drewN | apply below_drew1 | refine below_set ?_ GE142.out) | exact HB.out)) hb); clear HO_4; clear HO_5; clear BK142; clear HB; have HO_4 := n0_; have HO_5 := n1_; have HO150 := n2_; have BK142 := n3_; have HB := n4_; clear n0_ n1_ n2_ n3_ n4_; (try clear hb); (try clear hb2); (try clear hk); (try clear hi); (try clear ho0); obtain ⟨Ao19, co19, eo19⟩ := Kd.R_slice HO150.out; subst eo19; have p151 : 0 ≤ (x6_1 : Int) := of_decide_eq_true (by first | (with_reducible assumption) | assumption); have q151 : x6_1 < (t148.length : Int) := of_decide_eq_true (by first | (with_reducible assumption) | assumption); obtain ⟨ad151, e151, hx151_0⟩ := Kd.at_int (Kd.R_reads' HO150.out).2.2 x6_1 p151 q151; cases e151; replace p151 := eq_true p151; replace q151 := eq_true q151) | ((with_reducible refine gate_dst (N := 7) rfl ?_); (try (refine gate_guard (by rfl) ?_; dsimp only)); refine box_event ?hg (N := 7) ?hd (cs := #[.int .i64 0, .int .i64 0, .int .i64 0, .int .u32 0]) (t := 48) ?hr ?_; (case hd => rfl); (case hg => rfl); (case hr => first | (go_simp; done) | (go_simp; rfl)); intro gb152 hg w20 hbox hb; have n0_ := Aside0.mk (Kd.V_below (Kd.V_elderB (by (with_reducible repeat (first | apply Kd.V_alloc | apply Kd.V_drewN | apply Kd.V_drew)); exact HO_4.out) gb152 (Nat.le_of_eq hg.symm)) hb); have n1_ := Aside0.mk (Kd.R_below (by (with_reducible repeat (first | apply Kd.R_alloc | apply Kd.R_drewN | apply Kd.R_drew)); exact HO_5.out) hb); have n2_ := Aside0.mk (Kd.R_below (by (with_reducible repeat (first | apply Kd.R_alloc | apply Kd.R_drewN | apply Kd.R_drew)); exact HO150.out) hb); have n3_ := Aside0.mk (blk_below (g := gb142) (o := .cells #[.int .i64 x143000_1, .int .i64 x143001_1, .int .i64 x143002_1, .int .u32 x143003_1] 48 (0, 0)) (by (with_reducible repeat (first | refine blk_drewN ?_ _ | refine blk_drew ?_ | refine blk_alloc ?_ _)); exact BK142.out) hb); have n4_ := Aside0.mk (below_step (by repeat (first | (with_reducible first | exact HB.out | apply below_alloc | apply pw_below_drewN | apply below_drew1 | refine below_set ?_ GE142.out) | exact HB.out)) hb); have n5_ := Aside0.mk (hbox); have n6_ := Aside0.mk ((by rw [hg]; exact (below_size (by repeat (first | (with_reducible first | exact HB.out | apply below_alloc | apply pw_below_drewN | apply below_drew1 | refine below_set ?_ GE142.out) | exact HB.out))) : w.heap.size ≤ gb152)); have n7_ := Aside0.mk ((by rw [hg]; exact (below_size (by repeat (first | (with_reducible first | exact HB.out | apply below_alloc | apply pw_below_drewN | apply below_drew1 | refine below_set ?_ GE142.out) | exact HB.out))) : w.heap.size ≤ gb152)); have n8_ := Aside0.mk ((by rw [hg]; exact Nat.ne_of_lt (blk_lt (g := gb142) (o := .cells #[.int .i64 x143000_1, .int .i64 x143001_1, .int .i64 x143002_1, .int .u32 x143003_1] 48 (0, 0)) (by (with_reducible repeat (first | refine blk_drewN ?_ _ | refine blk_drew ?_ | refine blk_alloc ?_ _)); exact BK142.out)) : gb142 ≠ gb152)); have n9_ := Aside0.mk ((by rw [hg]; exact Nat.ne_of_gt (blk_lt (g := gb142) (o := .cells #[.int .i64 x143000_1, .int .i64 x143001_1, .int .i64 x143002_1, .int .u32 x143003_1] 48 (0, 0)) (by (with_reducible repeat (first | refine blk_drewN ?_ _ | refine blk_drew ?_ | refine blk_alloc ?_ _)); exact BK142.out)) : gb152 ≠ gb142)); clear HO_4; clear HO_5; clear HO150; clear BK142; clear HB; have HO_4 := n0_; have HO_5 := n1_; have HO150 := n2_; have BK142 := n3_; have HB := n4_; have BK152 := n5_; have GW152 := n6_; have GE152 := n7_; have NB142_152 := n8_; have NB152_142 := n9_; clear n0_ n1_ n2_ n3_ n4_ n5_ n6_ n7_ n8_ n9_; clear hb hbox hg; have hnb21 := NB152_142.out; have hnc21 := NB142_152.out; have hcz22_0 : w20.cell? ⟨gb152, 0, none⟩ = some (.int .i64 0) := (blk_cell BK152.out 0).trans rfl; have hcz22_1 : w20.cell? ⟨gb152, 1, none⟩ = some (.int .i64 0) := (blk_cell BK152.out 1).trans rfl; have hcz22_2 : w20.cell? ⟨gb152, 2, none⟩ = some (.int .i64 0) := (blk_cell BK152.out 2).trans rfl; have hcz22_3 : w20.cell? ⟨gb152, 3, none⟩ = some (.int .u32 0) := (blk_cell BK152.out 3).trans rfl; have hfz22_0 := blk_frozen BK152.out 0; have hfz22_1 := blk_frozen BK152.out 1; have hfz22_2 := blk_frozen BK152.out 2; have hfz22_3 := blk_frozen BK152.out 3) | ((with_reducible refine gate_store (t := 48) (p := 7) rfl ?_); (try (rw [drewN_self w20]; generalize hq_ : World.drewN w20 _ = w20; have n0_ := Aside0.mk (Kd.V_at hq_ HO_4.out); have n1_ := Aside0.mk (Kd.R_at hq_ HO_5.out); have n2_ := Aside0.mk (Kd.R_at hq_ HO150.out); have n3_ := Aside0.mk (blk_at hq_ BK142.out); have n4_ := Aside0.mk (blk_at hq_ BK152.out); have n5_ := Aside0.mk (below_at hq_ HB.out); clear hq_ HO_4 HO_5 HO150 BK142 BK152 HB; have HO_4 := n0_; have HO_5 := n1_; have HO150 := n2_; have BK142 := n3_; have BK152 := n4_; have HB := n5_; clear n0_ n1_ n2_ n3_ n4_ n5_)); refine store_event (t := 48) (p := 7) (v := ?vo_w23) (w1 := ((((w20.setCell ⟨gb152, 0, none⟩ (.int .i64 (rd t148 x6_1))).setCell ⟨gb152, 1, none⟩ (.int .i64 0)).setCell ⟨gb152, 2, none⟩ (.int .i64 0)).setCell ⟨gb152, 3, none⟩ (.int .u32 0))) ?hg ?ho ?hn ?hr ?_; (case ho => rfl); (case hg => rfl); (case hn => rfl); (case hr => first | (go_simp; done) | (go_simp; rfl)); intro w23 hw; have n0_ : Aside0 (Kd.V Kd.string 9 w23 w.heap.size (fun k_ => (P1_ k_ ∨ w.heap.size ≤ k_) ∧ some k_ ≠ (.slice Ao8 t143.length co8 : Value).ownBlock ∧ some k_ ≠ (.slice (some ad151) t148.length co19 : Value).ownBlock ∧ k_ ≠ gb142 ∧ k_ ≠ gb152) (.slice A1 l1.length c1) l1) := ⟨(by rw [hw]; exact (by (with_reducible repeat (first | apply Kd.V_alloc | apply Kd.V_drewN | apply Kd.V_drew)); exact Kd.V_mono (Kd.V_far (p := ⟨gb152, 3, none⟩) (Kd.V_far (p := ⟨gb152, 2, none⟩) (Kd.V_far (p := ⟨gb152, 1, none⟩) (Kd.V_far (p := ⟨gb152, 0, none⟩) (Kd.V_mono HO_4.out (fun k_ hk => (⟨hk, hk.2⟩ : _ ∧ k_ ≠ gb152))) (fun _ hk => hk.2) (.int .i64 (rd t148 x6_1))) (fun _ hk => hk.2) (.int .i64 0)) (fun _ hk => hk.2) (.int .i64 0)) (fun _ hk => hk.2) (.int .u32 0)) (fun _ hk => ⟨hk.1.1.1.1, ⟨hk.1.1.1.2.1, ⟨hk.1.1.2, ⟨hk.1.1.1.2.2, hk.1.2⟩⟩⟩⟩)))⟩; have n1_ : Aside0 (Kd.R Kd.string 9 w23 w.heap.size (fun k_ => (w.heap.size ≤ k_)) (.slice Ao8 t143.length co8) t143) := ⟨(by rw [hw]; exact (by (with_reducible repeat (first | apply Kd.R_alloc | apply Kd.R_drewN | apply Kd.R_drew)); exact Kd.R_mono (Kd.R_far (p := ⟨gb152, 3, none⟩) (Kd.R_far (p := ⟨gb152, 2, none⟩) (Kd.R_far (p := ⟨gb152, 1, none⟩) (Kd.R_far (p := ⟨gb152, 0, none⟩) (Kd.R_types HO_5.out BK152.out (by decide)) (fun _ hk => hk.2) (.int .i64 (rd t148 x6_1))) (fun _ hk => hk.2) (.int .i64 0)) (fun _ hk => hk.2) (.int .i64 0)) (fun _ hk => hk.2) (.int .u32 0)) (fun _ hk => hk.1)))⟩; have n2_ : Aside0 (Kd.R (Kd.int .i64) 3 w23 w.heap.size (fun k_ => (w.heap.size ≤ k_)) (.slice (some ad151) t148.length co19) t148) := ⟨(by rw [hw]; exact (by (with_reducible repeat (first | apply Kd.R_alloc | apply Kd.R_drewN | apply Kd.R_drew)); exact Kd.R_mono (Kd.R_far (p := ⟨gb152, 3, none⟩) (Kd.R_far (p := ⟨gb152, 2, none⟩) (Kd.R_far (p := ⟨gb152, 1, none⟩) (Kd.R_far (p := ⟨gb152, 0, none⟩) (Kd.R_types HO150.out BK152.out (by decide)) (fun _ hk => hk.2) (.int .i64 (rd t148 x6_1))) (fun _ hk => hk.2) (.int .i64 0)) (fun _ hk => hk.2) (.int .i64 0)) (fun _ hk => hk.2) (.int .u32 0)) (fun _ hk => hk.1.1)))⟩; have n3_ : Aside0 (w23.heap[gb142]? = some (.cells #[.int .i64 x143000_1, .int .i64 x143001_1, .int .i64 x143002_1, .int .u32 x143003_1] 48 (0, 0))) := ⟨(by rw [hw]; exact (by (with_reducible repeat (first | refine blk_drewN ?_ _ | refine blk_drew ?_ | refine blk_alloc ?_ _)); refine blk_far ?_ NB142_152.out _; (with_reducible repeat (first | refine blk_drewN ?_ _ | refine blk_drew ?_ | refine blk_alloc ?_ _)); refine blk_far ?_ NB142_152.out _; (with_reducible repeat (first | refine blk_drewN ?_ _ | refine blk_drew ?_ | refine blk_alloc ?_ _)); refine blk_far ?_ NB142_152.out _; (with_reducible repeat (first | refine blk_drewN ?_ _ | refine blk_drew ?_ | refine blk_alloc ?_ _)); refine blk_far ?_ NB142_152.out _; (with_reducible repeat (first | refine blk_drewN ?_ _ | refine blk_drew ?_ | refine blk_alloc ?_ _)); exact BK142.out))⟩; have n4_ : Aside0 (w23.heap[gb152]? = some (.cells #[.int .i64 (rd t148 x6_1), .int .i64 0, .int .i64 0, .int .u32 0] 48 (0, 0))) := ⟨(by rw [hw]; exact (by (with_reducible repeat (first | refine blk_drewN ?_ _ | refine blk_drew ?_ | refine blk_alloc ?_ _)); refine blk_put (cs := #[.int .i64 (rd t148 x6_1), .int .i64 0, .int .i64 0, .int .u32 0]) ?_ 3 _ rfl; (with_reducible repeat (first | refine blk_drewN ?_ _ | refine blk_drew ?_ | refine blk_alloc ?_ _)); refine blk_put (cs := #[.int .i64 (rd t148 x6_1), .int .i64 0, .int .i64 0, .int .u32 0]) ?_ 2 _ rfl; (with_reducible repeat (first | refine blk_drewN ?_ _ | refine blk_drew ?_ | refine blk_alloc ?_ _)); refine blk_put (cs := #[.int .i64 (rd t148 x6_1), .int .i64 0, .int .i64 0, .int .u32 0]) ?_ 1 _ rfl; (with_reducible repeat (first | refine blk_drewN ?_ _ | refine blk_drew ?_ | refine blk_alloc ?_ _)); refine blk_put (cs := #[.int .i64 0, .int .i64 0, .int .i64 0, .int .u32 0]) ?_ 0 _ rfl; (with_reducible repeat (first | refine blk_drewN ?_ _ | refine blk_drew ?_ | refine blk_alloc ?_ _)); exact BK152.out))⟩; have n5_ : Aside0 (Below w.heap.size w w23) := ⟨(by rw [hw]; exact (by repeat (first | (with_reducible first | exact HB.out | apply below_alloc | apply pw_below_drewN | apply below_drew1 | refine below_set ?_ GE142.out | refine below_set ?_ GE152.out) | exact HB.out)))⟩; clear hw; clear HO_4; clear HO_5; clear HO150; clear BK142; clear BK152; clear HB; have HO_4 := n0_; have HO_5 := n1_; have HO150 := n2_; have BK142 := n3_; have BK152 := n4_; have HB := n5_; clear n0_ n1_ n2_ n3_ n4_ n5_; have q24 : (1 : Int) ≤ ((l1.length : Int) : Int) := of_decide_eq_true (by first | (with_reducible assumption) | assumption); obtain ⟨i024, hi024, _, hsz24, _⟩ := info_parts info9; have hroom24 : l1.length ≤ c1 := (Kd.V_reads' HO_4.out).2.1; have hC24 : Kd.F Kd.string _ _ A1 l1.length l1 := (Kd.V_at (base := w.heap.size) HO_4.out).2.2; have hcut24 := cut_from (P := Tryd.prog) 53 9 .i64 Tryd.underlying53 hi024 1 hsz24 A1 l1.length c1 1 (by omega) q24; have hr24 := Kd.F_cut (m := (1 : Int).toNat) (c := c1) hC24 (by omega) hroom24; obtain ⟨A24, hA24⟩ : ∃ A_, A_ = (if c1 = (1 : Int).toNat then A1 else (A1 : Option Addr).map (·.add ((1 : Int).toNat * 1))) := ⟨_, rfl⟩; obtain ⟨c24, hc24⟩ : ∃ c_, c_ = c1 - (1 : Int).toNat := ⟨_, rfl⟩; have hy24 : y153.length = l1.length - (1 : Int).toNat := (by rw [Ny153.out, List.length_drop] <;> omega); rw [show (l1).drop (1 : Int).toNat = y153 from Ny153.out.symm] at hr24; replace hr24 : Kd.F Kd.string _ _ A24 y153.length y153 := (by rw [hA24]; exact hr24); rw [← hy24, ← hA24, ← hc24] at hcut24; have HO157 := Aside0.mk (show Kd.V Kd.string 9 _ w.heap.size _ (.slice A24 y153.length c24) y153 from Kd.V_mk (by rw [hy24, hc24]; exact Nat.sub_le_sub_right hroom24 _) hr24); have HC157 := Aside0.mk (show y153.length ≤ c24 from by rw [hy24, hc24]; exact Nat.sub_le_sub_right hroom24 _); clear hr24 hC24 hroom24 hi024 hsz24 hc24; have KY24 := Aside0.mk hy24; have KA24 := Aside0.mk hA24; clear hy24 hA24; replace q24 := eq_true q24))
                    repeat (go_quiet (first | (go_at_call 38; (with_reducible refine (hurdleref02_Ops.calls  t148 _ A13.out).mono ?_); rintro e w18 ⟨v149, rfl, ho0, hb⟩; have n0_ := Aside0.mk (Kd.V_elder' (by (with_reducible repeat (first | apply Kd.V_alloc | apply Kd.V_drewN | apply Kd.V_drew)); exact HO_4.out) (Kd.R_base ho0) hb); have n1_ := Aside0.mk (Kd.R_below (by (with_reducible repeat (first | apply Kd.R_alloc | apply Kd.R_drewN | apply Kd.R_drew)); exact HO_5.out) hb); have n2_ := Aside0.mk (Kd.R_lower (Kd.R_newM (M := fun k_ => (w.heap.size ≤ k_)) ho0 (below_size (by repeat (first | (with_reducible first | exact HB.out | apply below_alloc | apply pw_below_drewN | apply below_drew1 | refine below_set ?_ GE142.out) | exact HB.out))) (fun k_ h_ => h_)) (below_size (by repeat (first | (with_reducible first | exact HB.out | apply below_alloc | apply pw_below_drewN | apply below_drew1 | refine below_set ?_ GE142.out) | exact HB.out)))); have n3_ := Aside0.mk (blk_below (g := gb142) (o := .cells #[.int .i64 x143000_1, .int .i64 x143001_1, .int .i64 x143002_1, .int .u32 x143003_1] 48 (0, 0)) (by (with_reducible repeat (first | refine blk_drewN ?_ _ | refine blk_drew ?_ | refine blk_alloc ?_ _)); exact BK142.out) hb); have n4_ := Aside0.mk (below_step (by repeat (first | (with_reducible first | exact HB.out | apply below_alloc | apply pw_below_drewN | apply below_drew1 | refine below_set ?_ GE142.out) | exact HB.out)) hb); clear HO_4; clear HO_5; clear BK142; clear HB; have HO_4 := n0_; have HO_5 := n1_; have HO150 := n2_; have BK142 := n3_; have HB := n4_; clear n0_ n1_ n2_ n3_ n4_; (try clear hb); (try clear hb2); (try clear hk); (try clear hi); (try clear ho0); obtain ⟨Ao19, co19, eo19⟩ := Kd.R_slice HO150.out; subst eo19; have p151 : 0 ≤ (x6_1 : Int) := of_decide_eq_true (by first | (with_reducible assumption) | assumption); have q151 : x6_1 < (t148.length : Int) := of_decide_eq_true (by first | (with_reducible assumption) | assumption); obtain ⟨ad151, e151, hx151_0⟩ := Kd.at_int (Kd.R_reads' HO150.out).2.2 x6_1 p151 q151; cases e151; replace p151 := eq_true p151; replace q151 := eq_true q151) | ((with_reducible refine gate_dst (N := 7) rfl ?_); (try (refine gate_guard (by rfl) ?_; dsimp only)); refine box_event ?hg (N := 7) ?hd (cs := #[.int .i64 0, .int .i64 0, .int .i64 0, .int .u32 0]) (t := 48) ?hr ?_; (case hd => rfl); (case hg => rfl); (case hr => first | (go_simp; done) | (go_simp; rfl)); intro gb152 hg w20 hbox hb; have n0_ := Aside0.mk (Kd.V_below (Kd.V_elderB (by (with_reducible repeat (first | apply Kd.V_alloc | apply Kd.V_drewN | apply Kd.V_drew)); exact HO_4.out) gb152 (Nat.le_of_eq hg.symm)) hb); have n1_ := Aside0.mk (Kd.R_below (by (with_reducible repeat (first | apply Kd.R_alloc | apply Kd.R_drewN | apply Kd.R_drew)); exact HO_5.out) hb); have n2_ := Aside0.mk (Kd.R_below (by (with_reducible repeat (first | apply Kd.R_alloc | apply Kd.R_drewN | apply Kd.R_drew)); exact HO150.out) hb); have n3_ := Aside0.mk (blk_below (g := gb142) (o := .cells #[.int .i64 x143000_1, .int .i64 x143001_1, .int .i64 x143002_1, .int .u32 x143003_1] 48 (0, 0)) (by (with_reducible repeat (first | refine blk_drewN ?_ _ | refine blk_drew ?_ | refine blk_alloc ?_ _)); exact BK142.out) hb); have n4_ := Aside0.mk (below_step (by repeat (first | (with_reducible first | exact HB.out | apply below_alloc | apply pw_below_drewN | apply below_drew1 | refine below_set ?_ GE142.out) | exact HB.out)) hb); have n5_ := Aside0.mk (hbox); have n6_ := Aside0.mk ((by rw [hg]; exact (below_size (by repeat (first | (with_reducible first | exact HB.out | apply below_alloc | apply pw_below_drewN | apply below_drew1 | refine below_set ?_ GE142.out) | exact HB.out))) : w.heap.size ≤ gb152)); have n7_ := Aside0.mk ((by rw [hg]; exact (below_size (by repeat (first | (with_reducible first | exact HB.out | apply below_alloc | apply pw_below_drewN | apply below_drew1 | refine below_set ?_ GE142.out) | exact HB.out))) : w.heap.size ≤ gb152)); have n8_ := Aside0.mk ((by rw [hg]; exact Nat.ne_of_lt (blk_lt (g := gb142) (o := .cells #[.int .i64 x143000_1, .int .i64 x143001_1, .int .i64 x143002_1, .int .u32 x143003_1] 48 (0, 0)) (by (with_reducible repeat (first | refine blk_drewN ?_ _ | refine blk_drew ?_ | refine blk_alloc ?_ _)); exact BK142.out)) : gb142 ≠ gb152)); have n9_ := Aside0.mk ((by rw [hg]; exact Nat.ne_of_gt (blk_lt (g := gb142) (o := .cells #[.int .i64 x143000_1, .int .i64 x143001_1, .int .i64 x143002_1, .int .u32 x143003_1] 48 (0, 0)) (by (with_reducible repeat (first | refine blk_drewN ?_ _ | refine blk_drew ?_ | refine blk_alloc ?_ _)); exact BK142.out)) : gb152 ≠ gb142)); clear HO_4; clear HO_5; clear HO150; clear BK142; clear HB; have HO_4 := n0_; have HO_5 := n1_; have HO150 := n2_; have BK142 := n3_; have HB := n4_; have BK152 := n5_; have GW152 := n6_; have GE152 := n7_; have NB142_152 := n8_; have NB152_142 := n9_; clear n0_ n1_ n2_ n3_ n4_ n5_ n6_ n7_ n8_ n9_; clear hb hbox hg; have hnb21 := NB152_142.out; have hnc21 := NB142_152.out; have hcz22_0 : w20.cell? ⟨gb152, 0, none⟩ = some (.int .i64 0) := (blk_cell BK152.out 0).trans rfl; have hcz22_1 : w20.cell? ⟨gb152, 1, none⟩ = some (.int .i64 0) := (blk_cell BK152.out 1).trans rfl; have hcz22_2 : w20.cell? ⟨gb152, 2, none⟩ = some (.int .i64 0) := (blk_cell BK152.out 2).trans rfl; have hcz22_3 : w20.cell? ⟨gb152, 3, none⟩ = some (.int .u32 0) := (blk_cell BK152.out 3).trans rfl; have hfz22_0 := blk_frozen BK152.out 0; have hfz22_1 := blk_frozen BK152.out 1; have hfz22_2 := blk_frozen BK152.out 2; have hfz22_3 := blk_frozen BK152.out 3) | ((with_reducible refine gate_store (t := 48) (p := 7) rfl ?_); (try (rw [drewN_self w20]; generalize hq_ : World.drewN w20 _ = w20; have n0_ := Aside0.mk (Kd.V_at hq_ HO_4.out); have n1_ := Aside0.mk (Kd.R_at hq_ HO_5.out); have n2_ := Aside0.mk (Kd.R_at hq_ HO150.out); have n3_ := Aside0.mk (blk_at hq_ BK142.out); have n4_ := Aside0.mk (blk_at hq_ BK152.out); have n5_ := Aside0.mk (below_at hq_ HB.out); clear hq_ HO_4 HO_5 HO150 BK142 BK152 HB; have HO_4 := n0_; have HO_5 := n1_; have HO150 := n2_; have BK142 := n3_; have BK152 := n4_; have HB := n5_; clear n0_ n1_ n2_ n3_ n4_ n5_)); refine store_event (t := 48) (p := 7) (v := ?vo_w23) (w1 := ((((w20.setCell ⟨gb152, 0, none⟩ (.int .i64 (rd t148 x6_1))).setCell ⟨gb152, 1, none⟩ (.int .i64 0)).setCell ⟨gb152, 2, none⟩ (.int .i64 0)).setCell ⟨gb152, 3, none⟩ (.int .u32 0))) ?hg ?ho ?hn ?hr ?_; (case ho => rfl); (case hg => rfl); (case hn => rfl); (case hr => first | (go_simp; done) | (go_simp; rfl)); intro w23 hw; have n0_ : Aside0 (Kd.V Kd.string 9 w23 w.heap.size (fun k_ => (P1_ k_ ∨ w.heap.size ≤ k_) ∧ some k_ ≠ (.slice Ao8 t143.length co8 : Value).ownBlock ∧ some k_ ≠ (.slice (some ad151) t148.length co19 : Value).ownBlock ∧ k_ ≠ gb142 ∧ k_ ≠ gb152) (.slice A1 l1.length c1) l1) := ⟨(by rw [hw]; exact (by (with_reducible repeat (first | apply Kd.V_alloc | apply Kd.V_drewN | apply Kd.V_drew)); exact Kd.V_mono (Kd.V_far (p := ⟨gb152, 3, none⟩) (Kd.V_far (p := ⟨gb152, 2, none⟩) (Kd.V_far (p := ⟨gb152, 1, none⟩) (Kd.V_far (p := ⟨gb152, 0, none⟩) (Kd.V_mono HO_4.out (fun k_ hk => (⟨hk, hk.2⟩ : _ ∧ k_ ≠ gb152))) (fun _ hk => hk.2) (.int .i64 (rd t148 x6_1))) (fun _ hk => hk.2) (.int .i64 0)) (fun _ hk => hk.2) (.int .i64 0)) (fun _ hk => hk.2) (.int .u32 0)) (fun _ hk => ⟨hk.1.1.1.1, ⟨hk.1.1.1.2.1, ⟨hk.1.1.2, ⟨hk.1.1.1.2.2, hk.1.2⟩⟩⟩⟩)))⟩; have n1_ : Aside0 (Kd.R Kd.string 9 w23 w.heap.size (fun k_ => (w.heap.size ≤ k_)) (.slice Ao8 t143.length co8) t143) := ⟨(by rw [hw]; exact (by (with_reducible repeat (first | apply Kd.R_alloc | apply Kd.R_drewN | apply Kd.R_drew)); exact Kd.R_mono (Kd.R_far (p := ⟨gb152, 3, none⟩) (Kd.R_far (p := ⟨gb152, 2, none⟩) (Kd.R_far (p := ⟨gb152, 1, none⟩) (Kd.R_far (p := ⟨gb152, 0, none⟩) (Kd.R_types HO_5.out BK152.out (by decide)) (fun _ hk => hk.2) (.int .i64 (rd t148 x6_1))) (fun _ hk => hk.2) (.int .i64 0)) (fun _ hk => hk.2) (.int .i64 0)) (fun _ hk => hk.2) (.int .u32 0)) (fun _ hk => hk.1)))⟩; have n2_ : Aside0 (Kd.R (Kd.int .i64) 3 w23 w.heap.size (fun k_ => (w.heap.size ≤ k_)) (.slice (some ad151) t148.length co19) t148) := ⟨(by rw [hw]; exact (by (with_reducible repeat (first | apply Kd.R_alloc | apply Kd.R_drewN | apply Kd.R_drew)); exact Kd.R_mono (Kd.R_far (p := ⟨gb152, 3, none⟩) (Kd.R_far (p := ⟨gb152, 2, none⟩) (Kd.R_far (p := ⟨gb152, 1, none⟩) (Kd.R_far (p := ⟨gb152, 0, none⟩) (Kd.R_types HO150.out BK152.out (by decide)) (fun _ hk => hk.2) (.int .i64 (rd t148 x6_1))) (fun _ hk => hk.2) (.int .i64 0)) (fun _ hk => hk.2) (.int .i64 0)) (fun _ hk => hk.2) (.int .u32 0)) (fun _ hk => hk.1.1)))⟩; have n3_ : Aside0 (w23.heap[gb142]? = some (.cells #[.int .i64 x143000_1, .int .i64 x143001_1, .int .i64 x143002_1, .int .u32 x143003_1] 48 (0, 0))) := ⟨(by rw [hw]; exact (by (with_reducible repeat (first | refine blk_drewN ?_ _ | refine blk_drew ?_ | refine blk_alloc ?_ _)); refine blk_far ?_ NB142_152.out _; (with_reducible repeat (first | refine blk_drewN ?_ _ | refine blk_drew ?_ | refine blk_alloc ?_ _)); refine blk_far ?_ NB142_152.out _; (with_reducible repeat (first | refine blk_drewN ?_ _ | refine blk_drew ?_ | refine blk_alloc ?_ _)); refine blk_far ?_ NB142_152.out _; (with_reducible repeat (first | refine blk_drewN ?_ _ | refine blk_drew ?_ | refine blk_alloc ?_ _)); refine blk_far ?_ NB142_152.out _; (with_reducible repeat (first | refine blk_drewN ?_ _ | refine blk_drew ?_ | refine blk_alloc ?_ _)); exact BK142.out))⟩; have n4_ : Aside0 (w23.heap[gb152]? = some (.cells #[.int .i64 (rd t148 x6_1), .int .i64 0, .int .i64 0, .int .u32 0] 48 (0, 0))) := ⟨(by rw [hw]; exact (by (with_reducible repeat (first | refine blk_drewN ?_ _ | refine blk_drew ?_ | refine blk_alloc ?_ _)); refine blk_put (cs := #[.int .i64 (rd t148 x6_1), .int .i64 0, .int .i64 0, .int .u32 0]) ?_ 3 _ rfl; (with_reducible repeat (first | refine blk_drewN ?_ _ | refine blk_drew ?_ | refine blk_alloc ?_ _)); refine blk_put (cs := #[.int .i64 (rd t148 x6_1), .int .i64 0, .int .i64 0, .int .u32 0]) ?_ 2 _ rfl; (with_reducible repeat (first | refine blk_drewN ?_ _ | refine blk_drew ?_ | refine blk_alloc ?_ _)); refine blk_put (cs := #[.int .i64 (rd t148 x6_1), .int .i64 0, .int .i64 0, .int .u32 0]) ?_ 1 _ rfl; (with_reducible repeat (first | refine blk_drewN ?_ _ | refine blk_drew ?_ | refine blk_alloc ?_ _)); refine blk_put (cs := #[.int .i64 0, .int .i64 0, .int .i64 0, .int .u32 0]) ?_ 0 _ rfl; (with_reducible repeat (first | refine blk_drewN ?_ _ | refine blk_drew ?_ | refine blk_alloc ?_ _)); exact BK152.out))⟩; have n5_ : Aside0 (Below w.heap.size w w23) := ⟨(by rw [hw]; exact (by repeat (first | (with_reducible first | exact HB.out | apply below_alloc | apply pw_below_drewN | apply below_drew1 | refine below_set ?_ GE142.out | refine below_set ?_ GE152.out) | exact HB.out)))⟩; clear hw; clear HO_4; clear HO_5; clear HO150; clear BK142; clear BK152; clear HB; have HO_4 := n0_; have HO_5 := n1_; have HO150 := n2_; have BK142 := n3_; have BK152 := n4_; have HB := n5_; clear n0_ n1_ n2_ n3_ n4_ n5_; have q24 : (1 : Int) ≤ ((l1.length : Int) : Int) := of_decide_eq_true (by first | (with_reducible assumption) | assumption); obtain ⟨i024, hi024, _, hsz24, _⟩ := info_parts info9; have hroom24 : l1.length ≤ c1 := (Kd.V_reads' HO_4.out).2.1; have hC24 : Kd.F Kd.string _ _ A1 l1.length l1 := (Kd.V_at (base := w.heap.size) HO_4.out).2.2; have hcut24 := cut_from (P := Tryd.prog) 53 9 .i64 Tryd.underlying53 hi024 1 hsz24 A1 l1.length c1 1 (by omega) q24; have hr24 := Kd.F_cut (m := (1 : Int).toNat) (c := c1) hC24 (by omega) hroom24; obtain ⟨A24, hA24⟩ : ∃ A_, A_ = (if c1 = (1 : Int).toNat then A1 else (A1 : Option Addr).map (·.add ((1 : Int).toNat * 1))) := ⟨_, rfl⟩; obtain ⟨c24, hc24⟩ : ∃ c_, c_ = c1 - (1 : Int).toNat := ⟨_, rfl⟩; have hy24 : y153.length = l1.length - (1 : Int).toNat := (by rw [Ny153.out, List.length_drop] <;> omega); rw [show (l1).drop (1 : Int).toNat = y153 from Ny153.out.symm] at hr24; replace hr24 : Kd.F Kd.string _ _ A24 y153.length y153 := (by rw [hA24]; exact hr24); rw [← hy24, ← hA24, ← hc24] at hcut24; have HO157 := Aside0.mk (show Kd.V Kd.string 9 _ w.heap.size _ (.slice A24 y153.length c24) y153 from Kd.V_mk (by rw [hy24, hc24]; exact Nat.sub_le_sub_right hroom24 _) hr24); have HC157 := Aside0.mk (show y153.length ≤ c24 from by rw [hy24, hc24]; exact Nat.sub_le_sub_right hroom24 _); clear hr24 hC24 hroom24 hi024 hsz24 hc24; have KY24 := Aside0.mk hy24; have KA24 := Aside0.mk hA24; clear hy24 hA24; replace q24 := eq_true q24)); go_upto_region 9 with (first | (go_at_call 38; (with_reducible refine (hurdleref02_Ops.calls  t148 _ A13.out).mono ?_); rintro e w18 ⟨v149, rfl, ho0, hb⟩; have n0_ := Aside0.mk (Kd.V_elder' (by (with_reducible repeat (first | apply Kd.V_alloc | apply Kd.V_drewN | apply Kd.V_drew)); exact HO_4.out) (Kd.R_base ho0) hb); have n1_ := Aside0.mk (Kd.R_below (by (with_reducible repeat (first | apply Kd.R_alloc | apply Kd.R_drewN | apply Kd.R_drew)); exact HO_5.out) hb); have n2_ := Aside0.mk (Kd.R_lower (Kd.R_newM (M := fun k_ => (w.heap.size ≤ k_)) ho0 (below_size (by repeat (first | (with_reducible first | exact HB.out | apply below_alloc | apply pw_below_drewN | apply below_drew1 | refine below_set ?_ GE142.out) | exact HB.out))) (fun k_ h_ => h_)) (below_size (by repeat (first | (with_reducible first | exact HB.out | apply below_alloc | apply pw_below_drewN | apply below_drew1 | refine below_set ?_ GE142.out) | exact HB.out)))); have n3_ := Aside0.mk (blk_below (g := gb142) (o := .cells #[.int .i64 x143000_1, .int .i64 x143001_1, .int .i64 x143002_1, .int .u32 x143003_1] 48 (0, 0)) (by (with_reducible repeat (first | refine blk_drewN ?_ _ | refine blk_drew ?_ | refine blk_alloc ?_ _)); exact BK142.out) hb); have n4_ := Aside0.mk (below_step (by repeat (first | (with_reducible first | exact HB.out | apply below_alloc | apply pw_below_drewN | apply below_drew1 | refine below_set ?_ GE142.out) | exact HB.out)) hb); clear HO_4; clear HO_5; clear BK142; clear HB; have HO_4 := n0_; have HO_5 := n1_; have HO150 := n2_; have BK142 := n3_; have HB := n4_; clear n0_ n1_ n2_ n3_ n4_; (try clear hb); (try clear hb2); (try clear hk); (try clear hi); (try clear ho0); obtain ⟨Ao19, co19, eo19⟩ := Kd.R_slice HO150.out; subst eo19; have p151 : 0 ≤ (x6_1 : Int) := of_decide_eq_true (by first | (with_reducible assumption) | assumption); have q151 : x6_1 < (t148.length : Int) := of_decide_eq_true (by first | (with_reducible assumption) | assumption); obtain ⟨ad151, e151, hx151_0⟩ := Kd.at_int (Kd.R_reads' HO150.out).2.2 x6_1 p151 q151; cases e151; replace p151 := eq_true p151; replace q151 := eq_true q151) | ((with_reducible refine gate_dst (N := 7) rfl ?_); (try (refine gate_guard (by rfl) ?_; dsimp only)); refine box_event ?hg (N := 7) ?hd (cs := #[.int .i64 0, .int .i64 0, .int .i64 0, .int .u32 0]) (t := 48) ?hr ?_; (case hd => rfl); (case hg => rfl); (case hr => first | (go_simp; done) | (go_simp; rfl)); intro gb152 hg w20 hbox hb; have n0_ := Aside0.mk (Kd.V_below (Kd.V_elderB (by (with_reducible repeat (first | apply Kd.V_alloc | apply Kd.V_drewN | apply Kd.V_drew)); exact HO_4.out) gb152 (Nat.le_of_eq hg.symm)) hb); have n1_ := Aside0.mk (Kd.R_below (by (with_reducible repeat (first | apply Kd.R_alloc | apply Kd.R_drewN | apply Kd.R_drew)); exact HO_5.out) hb); have n2_ := Aside0.mk (Kd.R_below (by (with_reducible repeat (first | apply Kd.R_alloc | apply Kd.R_drewN | apply Kd.R_drew)); exact HO150.out) hb); have n3_ := Aside0.mk (blk_below (g := gb142) (o := .cells #[.int .i64 x143000_1, .int .i64 x143001_1, .int .i64 x143002_1, .int .u32 x143003_1] 48 (0, 0)) (by (with_reducible repeat (first | refine blk_drewN ?_ _ | refine blk_drew ?_ | refine blk_alloc ?_ _)); exact BK142.out) hb); have n4_ := Aside0.mk (below_step (by repeat (first | (with_reducible first | exact HB.out | apply below_alloc | apply pw_below_drewN | apply below_drew1 | refine below_set ?_ GE142.out) | exact HB.out)) hb); have n5_ := Aside0.mk (hbox); have n6_ := Aside0.mk ((by rw [hg]; exact (below_size (by repeat (first | (with_reducible first | exact HB.out | apply below_alloc | apply pw_below_drewN | apply below_drew1 | refine below_set ?_ GE142.out) | exact HB.out))) : w.heap.size ≤ gb152)); have n7_ := Aside0.mk ((by rw [hg]; exact (below_size (by repeat (first | (with_reducible first | exact HB.out | apply below_alloc | apply pw_below_drewN | apply below_drew1 | refine below_set ?_ GE142.out) | exact HB.out))) : w.heap.size ≤ gb152)); have n8_ := Aside0.mk ((by rw [hg]; exact Nat.ne_of_lt (blk_lt (g := gb142) (o := .cells #[.int .i64 x143000_1, .int .i64 x143001_1, .int .i64 x143002_1, .int .u32 x143003_1] 48 (0, 0)) (by (with_reducible repeat (first | refine blk_drewN ?_ _ | refine blk_drew ?_ | refine blk_alloc ?_ _)); exact BK142.out)) : gb142 ≠ gb152)); have n9_ := Aside0.mk ((by rw [hg]; exact Nat.ne_of_gt (blk_lt (g := gb142) (o := .cells #[.int .i64 x143000_1, .int .i64 x143001_1, .int .i64 x143002_1, .int .u32 x143003_1] 48 (0, 0)) (by (with_reducible repeat (first | refine blk_drewN ?_ _ | refine blk_drew ?_ | refine blk_alloc ?_ _)); exact BK142.out)) : gb152 ≠ gb142)); clear HO_4; clear HO_5; clear HO150; clear BK142; clear HB; have HO_4 := n0_; have HO_5 := n1_; have HO150 := n2_; have BK142 := n3_; have HB := n4_; have BK152 := n5_; have GW152 := n6_; have GE152 := n7_; have NB142_152 := n8_; have NB152_142 := n9_; clear n0_ n1_ n2_ n3_ n4_ n5_ n6_ n7_ n8_ n9_; clear hb hbox hg; have hnb21 := NB152_142.out; have hnc21 := NB142_152.out; have hcz22_0 : w20.cell? ⟨gb152, 0, none⟩ = some (.int .i64 0) := (blk_cell BK152.out 0).trans rfl; have hcz22_1 : w20.cell? ⟨gb152, 1, none⟩ = some (.int .i64 0) := (blk_cell BK152.out 1).trans rfl; have hcz22_2 : w20.cell? ⟨gb152, 2, none⟩ = some (.int .i64 0) := (blk_cell BK152.out 2).trans rfl; have hcz22_3 : w20.cell? ⟨gb152, 3, none⟩ = some (.int .u32 0) := (blk_cell BK152.out 3).trans rfl; have hfz22_0 := blk_frozen BK152.out 0; have hfz22_1 := blk_frozen BK152.out 1; have hfz22_2 := blk_frozen BK152.out 2; have hfz22_3 := blk_frozen BK152.out 3) | ((with_reducible refine gate_store (t := 48) (p := 7) rfl ?_); (try (rw [drewN_self w20]; generalize hq_ : World.drewN w20 _ = w20; have n0_ := Aside0.mk (Kd.V_at hq_ HO_4.out); have n1_ := Aside0.mk (Kd.R_at hq_ HO_5.out); have n2_ := Aside0.mk (Kd.R_at hq_ HO150.out); have n3_ := Aside0.mk (blk_at hq_ BK142.out); have n4_ := Aside0.mk (blk_at hq_ BK152.out); have n5_ := Aside0.mk (below_at hq_ HB.out); clear hq_ HO_4 HO_5 HO150 BK142 BK152 HB; have HO_4 := n0_; have HO_5 := n1_; have HO150 := n2_; have BK142 := n3_; have BK152 := n4_; have HB := n5_; clear n0_ n1_ n2_ n3_ n4_ n5_)); refine store_event (t := 48) (p := 7) (v := ?vo_w23) (w1 := ((((w20.setCell ⟨gb152, 0, none⟩ (.int .i64 (rd t148 x6_1))).setCell ⟨gb152, 1, none⟩ (.int .i64 0)).setCell ⟨gb152, 2, none⟩ (.int .i64 0)).setCell ⟨gb152, 3, none⟩ (.int .u32 0))) ?hg ?ho ?hn ?hr ?_; (case ho => rfl); (case hg => rfl); (case hn => rfl); (case hr => first | (go_simp; done) | (go_simp; rfl)); intro w23 hw; have n0_ : Aside0 (Kd.V Kd.string 9 w23 w.heap.size (fun k_ => (P1_ k_ ∨ w.heap.size ≤ k_) ∧ some k_ ≠ (.slice Ao8 t143.length co8 : Value).ownBlock ∧ some k_ ≠ (.slice (some ad151) t148.length co19 : Value).ownBlock ∧ k_ ≠ gb142 ∧ k_ ≠ gb152) (.slice A1 l1.length c1) l1) := ⟨(by rw [hw]; exact (by (with_reducible repeat (first | apply Kd.V_alloc | apply Kd.V_drewN | apply Kd.V_drew)); exact Kd.V_mono (Kd.V_far (p := ⟨gb152, 3, none⟩) (Kd.V_far (p := ⟨gb152, 2, none⟩) (Kd.V_far (p := ⟨gb152, 1, none⟩) (Kd.V_far (p := ⟨gb152, 0, none⟩) (Kd.V_mono HO_4.out (fun k_ hk => (⟨hk, hk.2⟩ : _ ∧ k_ ≠ gb152))) (fun _ hk => hk.2) (.int .i64 (rd t148 x6_1))) (fun _ hk => hk.2) (.int .i64 0)) (fun _ hk => hk.2) (.int .i64 0)) (fun _ hk => hk.2) (.int .u32 0)) (fun _ hk => ⟨hk.1.1.1.1, ⟨hk.1.1.1.2.1, ⟨hk.1.1.2, ⟨hk.1.1.1.2.2, hk.1.2⟩⟩⟩⟩)))⟩; have n1_ : Aside0 (Kd.R Kd.string 9 w23 w.heap.size (fun k_ => (w.heap.size ≤ k_)) (.slice Ao8 t143.length co8) t143) := ⟨(by rw [hw]; exact (by (with_reducible repeat (first | apply Kd.R_alloc | apply Kd.R_drewN | apply Kd.R_drew)); exact Kd.R_mono (Kd.R_far (p := ⟨gb152, 3, none⟩) (Kd.R_far (p := ⟨gb152, 2, none⟩) (Kd.R_far (p := ⟨gb152, 1, none⟩) (Kd.R_far (p := ⟨gb152, 0, none⟩) (Kd.R_types HO_5.out BK152.out (by decide)) (fun _ hk => hk.2) (.int .i64 (rd t148 x6_1))) (fun _ hk => hk.2) (.int .i64 0)) (fun _ hk => hk.2) (.int .i64 0)) (fun _ hk => hk.2) (.int .u32 0)) (fun _ hk => hk.1)))⟩; have n2_ : Aside0 (Kd.R (Kd.int .i64) 3 w23 w.heap.size (fun k_ => (w.heap.size ≤ k_)) (.slice (some ad151) t148.length co19) t148) := ⟨(by rw [hw]; exact (by (with_reducible repeat (first | apply Kd.R_alloc | apply Kd.R_drewN | apply Kd.R_drew)); exact Kd.R_mono (Kd.R_far (p := ⟨gb152, 3, none⟩) (Kd.R_far (p := ⟨gb152, 2, none⟩) (Kd.R_far (p := ⟨gb152, 1, none⟩) (Kd.R_far (p := ⟨gb152, 0, none⟩) (Kd.R_types HO150.out BK152.out (by decide)) (fun _ hk => hk.2) (.int .i64 (rd t148 x6_1))) (fun _ hk => hk.2) (.int .i64 0)) (fun _ hk => hk.2) (.int .i64 0)) (fun _ hk => hk.2) (.int .u32 0)) (fun _ hk => hk.1.1)))⟩; have n3_ : Aside0 (w23.heap[gb142]? = some (.cells #[.int .i64 x143000_1, .int .i64 x143001_1, .int .i64 x143002_1, .int .u32 x143003_1] 48 (0, 0))) := ⟨(by rw [hw]; exact (by (with_reducible repeat (first | refine blk_drewN ?_ _ | refine blk_drew ?_ | refine blk_alloc ?_ _)); refine blk_far ?_ NB142_152.out _; (with_reducible repeat (first | refine blk_drewN ?_ _ | refine blk_drew ?_ | refine blk_alloc ?_ _)); refine blk_far ?_ NB142_152.out _; (with_reducible repeat (first | refine blk_drewN ?_ _ | refine blk_drew ?_ | refine blk_alloc ?_ _)); refine blk_far ?_ NB142_152.out _; (with_reducible repeat (first | refine blk_drewN ?_ _ | refine blk_drew ?_ | refine blk_alloc ?_ _)); refine blk_far ?_ NB142_152.out _; (with_reducible repeat (first | refine blk_drewN ?_ _ | refine blk_drew ?_ | refine blk_alloc ?_ _)); exact BK142.out))⟩; have n4_ : Aside0 (w23.heap[gb152]? = some (.cells #[.int .i64 (rd t148 x6_1), .int .i64 0, .int .i64 0, .int .u32 0] 48 (0, 0))) := ⟨(by rw [hw]; exact (by (with_reducible repeat (first | refine blk_drewN ?_ _ | refine blk_drew ?_ | refine blk_alloc ?_ _)); refine blk_put (cs := #[.int .i64 (rd t148 x6_1), .int .i64 0, .int .i64 0, .int .u32 0]) ?_ 3 _ rfl; (with_reducible repeat (first | refine blk_drewN ?_ _ | refine blk_drew ?_ | refine blk_alloc ?_ _)); refine blk_put (cs := #[.int .i64 (rd t148 x6_1), .int .i64 0, .int .i64 0, .int .u32 0]) ?_ 2 _ rfl; (with_reducible repeat (first | refine blk_drewN ?_ _ | refine blk_drew ?_ | refine blk_alloc ?_ _)); refine blk_put (cs := #[.int .i64 (rd t148 x6_1), .int .i64 0, .int .i64 0, .int .u32 0]) ?_ 1 _ rfl; (with_reducible repeat (first | refine blk_drewN ?_ _ | refine blk_drew ?_ | refine blk_alloc ?_ _)); refine blk_put (cs := #[.int .i64 0, .int .i64 0, .int .i64 0, .int .u32 0]) ?_ 0 _ rfl; (with_reducible repeat (first | refine blk_drewN ?_ _ | refine blk_drew ?_ | refine blk_alloc ?_ _)); exact BK152.out))⟩; have n5_ : Aside0 (Below w.heap.size w w23) := ⟨(by rw [hw]; exact (by repeat (first | (with_reducible first | exact HB.out | apply below_alloc | apply pw_below_drewN | apply below_drew1 | refine below_set ?_ GE142.out | refine below_set ?_ GE152.out) | exact HB.out)))⟩; clear hw; clear HO_4; clear HO_5; clear HO150; clear BK142; clear BK152; clear HB; have HO_4 := n0_; have HO_5 := n1_; have HO150 := n2_; have BK142 := n3_; have BK152 := n4_; have HB := n5_; clear n0_ n1_ n2_ n3_ n4_ n5_; have q24 : (1 : Int) ≤ ((l1.length : Int) : Int) := of_decide_eq_true (by first | (with_reducible assumption) | assumption); obtain ⟨i024, hi024, _, hsz24, _⟩ := info_parts info9; have hroom24 : l1.length ≤ c1 := (Kd.V_reads' HO_4.out).2.1; have hC24 : Kd.F Kd.string _ _ A1 l1.length l1 := (Kd.V_at (base := w.heap.size) HO_4.out).2.2; have hcut24 := cut_from (P := Tryd.prog) 53 9 .i64 Tryd.underlying53 hi024 1 hsz24 A1 l1.length c1 1 (by omega) q24; have hr24 := Kd.F_cut (m := (1 : Int).toNat) (c := c1) hC24 (by omega) hroom24; obtain ⟨A24, hA24⟩ : ∃ A_, A_ = (if c1 = (1 : Int).toNat then A1 else (A1 : Option Addr).map (·.add ((1 : Int).toNat * 1))) := ⟨_, rfl⟩; obtain ⟨c24, hc24⟩ : ∃ c_, c_ = c1 - (1 : Int).toNat := ⟨_, rfl⟩; have hy24 : y153.length = l1.length - (1 : Int).toNat := (by rw [Ny153.out, List.length_drop] <;> omega); rw [show (l1).drop (1 : Int).toNat = y153 from Ny153.out.symm] at hr24; replace hr24 : Kd.F Kd.string _ _ A24 y153.length y153 := (by rw [hA24]; exact hr24); rw [← hy24, ← hA24, ← hc24] at hcut24; have HO157 := Aside0.mk (show Kd.V Kd.string 9 _ w.heap.size _ (.slice A24 y153.length c24) y153 from Kd.V_mk (by rw [hy24, hc24]; exact Nat.sub_le_sub_right hroom24 _) hr24); have HC157 := Aside0.mk (show y153.length ≤ c24 from by rw [hy24, hc24]; exact Nat.sub_le_sub_right hroom24 _); clear hr24 hC24 hroom24 hi024 hsz24 hc24; have KY24 := Aside0.mk hy24; have KA24 := Aside0.mk hA24; clear hy24 hA24; replace q24 := eq_true q24)))
                    (try simp only [Act.put, List.setIfInBounds_toArray, List.set_cons_zero, List.set_cons_succ])
                    go_cut [51] (fun v51 wc => ∃ (kq : Nat) (x51_16 : Bool), v51 = .bool x51_16 ∧ Aside0 (hurdleref02_Parse.j2 kq a0 l1 t143 x6_1 y153 x51_16 (rd t148 x6_1) 0 0 0 = some (r1, r2, r3, r4, r5)) ∧ Aside0 (kq ≤ kj6) ∧ Aside0 (Kd.V Kd.string 9 wc w.heap.size (fun k_ => (P1_ k_ ∨ w.heap.size ≤ k_) ∧ some k_ ≠ ((.slice Ao8 t143.length co8) : Value).ownBlock ∧ k_ ≠ gb142 ∧ k_ ≠ gb152) (.slice A1 l1.length c1) l1) ∧ Aside0 (Kd.R Kd.string 9 wc w.heap.size (fun k_ => (w.heap.size ≤ k_)) (.slice Ao8 t143.length co8) t143) ∧ Aside0 (Kd.V Kd.string 9 wc w.heap.size (fun k_ => (P1_ k_ ∨ w.heap.size ≤ k_) ∧ some k_ ≠ ((.slice Ao8 t143.length co8) : Value).ownBlock ∧ k_ ≠ gb142 ∧ k_ ≠ gb152) (.slice A24 y153.length c24) y153) ∧ Aside0 (wc.heap[gb142]? = some (.cells #[.int .i64 x143000_1, .int .i64 x143001_1, .int .i64 x143002_1, .int .u32 x143003_1] 48 (0, 0))) ∧ Aside0 (wc.heap[gb152]? = some (.cells #[.int .i64 (rd t148 x6_1), .int .i64 0, .int .i64 0, .int .u32 0] 48 (0, 0))) ∧ Aside0 (Below w.heap.size w wc))
                    case first =>
                      have H := HC17.out
                      clear HC17
                      replace H := Option.bind_eq_some_iff.mp H
                      obtain ⟨t158, A250, H⟩ := H
                      replace H : (if t158 = true then (hurdleref02_Parse.j2 kj6 a0 l1 t143 x6_1 y153 false (rd t148 x6_1) 0 0 0) else (hurdleref02_Parse.j2 kj6 a0 l1 t143 x6_1 y153 (decide ((y153.length : Int) > 0)) (rd t148 x6_1) 0 0 0)) = some (r1, r2, r3, r4, r5) := H
                      have A25 := Aside0.mk A250
                      clear A250
                      by_cases c26 : t158 = true
                      · subst c26
                        have H1 : (hurdleref02_Parse.j2 kj6 a0 l1 t143 x6_1 y153 false (rd t148 x6_1) 0 0 0) = some (r1, r2, r3, r4, r5) := by rw [if_pos rfl] at H; exact H
                        clear H
                        have H := H1
                        clear H1
                        have H' := Aside0.mk H
                        clear H
                        go_wp2_with (first | (go_at_call 32; (with_reducible refine (hurdleref02_plain.calls x6_1 true _ A25.out).mono ?_); rintro e w' ⟨rfl, ⟨nd, rfl⟩⟩; (try first | exact ⟨rfl, _, World.drewN_drewN _ _ _⟩ | exact ⟨rfl, _, Eq.trans (World.drewN_drewN _ _ _) (congrArg (World.drewN _) (Nat.add_assoc _ _ _))⟩)))
                        repeat (go_quiet (first | (go_at_call 32; (with_reducible refine (hurdleref02_plain.calls x6_1 true _ A25.out).mono ?_); rintro e w' ⟨rfl, ⟨nd, rfl⟩⟩; (try first | exact ⟨rfl, _, World.drewN_drewN _ _ _⟩ | exact ⟨rfl, _, Eq.trans (World.drewN_drewN _ _ _) (congrArg (World.drewN _) (Nat.add_assoc _ _ _))⟩))); try go_wp2_with (first | (go_at_call 32; (with_reducible refine (hurdleref02_plain.calls x6_1 true _ A25.out).mono ?_); rintro e w' ⟨rfl, ⟨nd, rfl⟩⟩; (try first | exact ⟨rfl, _, World.drewN_drewN _ _ _⟩ | exact ⟨rfl, _, Eq.trans (World.drewN_drewN _ _ _) (congrArg (World.drewN _) (Nat.add_assoc _ _ _))⟩))))
                        go_meet
                        case rel => exact ⟨_, (false), (by first | rfl | (simp; done) | (simp [*]; done)), H', ⟨by have := HK1.out; have := HJ6.out; first | omega | exact Nat.le_refl _⟩, ⟨by (with_reducible repeat (first | apply Kd.V_alloc | apply Kd.V_drewN | apply Kd.V_drew)); exact Kd.V_mono HO_4.out (fun _ hk => ⟨hk.1, ⟨hk.2.1, ⟨hk.2.2.2.1, hk.2.2.2.2⟩⟩⟩)⟩, ⟨by (with_reducible repeat (first | apply Kd.R_alloc | apply Kd.R_drewN | apply Kd.R_drew)); exact HO_5.out⟩, ⟨by (with_reducible repeat (first | apply Kd.V_alloc | apply Kd.V_drewN | apply Kd.V_drew)); exact Kd.V_mono HO157.out (fun _ hk => ⟨hk.1, ⟨hk.2.1, ⟨hk.2.2.2.1, hk.2.2.2.2⟩⟩⟩)⟩, ⟨by (with_reducible repeat (first | refine blk_drewN ?_ _ | refine blk_drew ?_ | refine blk_alloc ?_ _)); exact BK142.out⟩, ⟨by (with_reducible repeat (first | refine blk_drewN ?_ _ | refine blk_drew ?_ | refine blk_alloc ?_ _)); exact BK152.out⟩, ⟨by repeat (first | (with_reducible first | exact HB.out | apply below_alloc | apply pw_below_drewN | apply below_drew1 | refine below_set ?_ GE142.out | refine below_set ?_ GE152.out) | exact HB.out)⟩⟩
                      · replace c26 := Bool.eq_false_iff.mpr c26
                        subst c26
                        have H1 : (hurdleref02_Parse.j2 kj6 a0 l1 t143 x6_1 y153 (decide ((y153.length : Int) > 0)) (rd t148 x6_1) 0 0 0) = some (r1, r2, r3, r4, r5) := by rw [if_neg (show ¬ (false = true) by decide)] at H; exact H
                        clear H
                        have H := H1
                        clear H1
                        have H' := Aside0.mk H
                        clear H
                        go_wp2_with (first | (go_at_call 32; (with_reducible refine (hurdleref02_plain.calls x6_1 false _ A25.out).mono ?_); rintro e w' ⟨rfl, ⟨nd, rfl⟩⟩; (try first | exact ⟨rfl, _, World.drewN_drewN _ _ _⟩ | exact ⟨rfl, _, Eq.trans (World.drewN_drewN _ _ _) (congrArg (World.drewN _) (Nat.add_assoc _ _ _))⟩)))
                        repeat (go_quiet (first | (go_at_call 32; (with_reducible refine (hurdleref02_plain.calls x6_1 false _ A25.out).mono ?_); rintro e w' ⟨rfl, ⟨nd, rfl⟩⟩; (try first | exact ⟨rfl, _, World.drewN_drewN _ _ _⟩ | exact ⟨rfl, _, Eq.trans (World.drewN_drewN _ _ _) (congrArg (World.drewN _) (Nat.add_assoc _ _ _))⟩))); try go_wp2_with (first | (go_at_call 32; (with_reducible refine (hurdleref02_plain.calls x6_1 false _ A25.out).mono ?_); rintro e w' ⟨rfl, ⟨nd, rfl⟩⟩; (try first | exact ⟨rfl, _, World.drewN_drewN _ _ _⟩ | exact ⟨rfl, _, Eq.trans (World.drewN_drewN _ _ _) (congrArg (World.drewN _) (Nat.add_assoc _ _ _))⟩))))
                        go_meet
                        case rel => exact ⟨_, (decide ((y153.length : Int) > 0)), (by first | rfl | (simp; done) | (simp [*]; done)), H', ⟨by have := HK1.out; have := HJ6.out; first | omega | exact Nat.le_refl _⟩, ⟨by (with_reducible repeat (first | apply Kd.V_alloc | apply Kd.V_drewN | apply Kd.V_drew)); exact Kd.V_mono HO_4.out (fun _ hk => ⟨hk.1, ⟨hk.2.1, ⟨hk.2.2.2.1, hk.2.2.2.2⟩⟩⟩)⟩, ⟨by (with_reducible repeat (first | apply Kd.R_alloc | apply Kd.R_drewN | apply Kd.R_drew)); exact HO_5.out⟩, ⟨by (with_reducible repeat (first | apply Kd.V_alloc | apply Kd.V_drewN | apply Kd.V_drew)); exact Kd.V_mono HO157.out (fun _ hk => ⟨hk.1, ⟨hk.2.1, ⟨hk.2.2.2.1, hk.2.2.2.2⟩⟩⟩)⟩, ⟨by (with_reducible repeat (first | refine blk_drewN ?_ _ | refine blk_drew ?_ | refine blk_alloc ?_ _)); exact BK142.out⟩, ⟨by (with_reducible repeat (first | refine blk_drewN ?_ _ | refine blk_drew ?_ | refine blk_alloc ?_ _)); exact BK152.out⟩, ⟨by repeat (first | (with_reducible first | exact HB.out | apply below_alloc | apply pw_below_drewN | apply below_drew1 | refine below_set ?_ GE142.out | refine below_set ?_ GE152.out) | exact HB.out)⟩⟩
                    case rest =>
                      clear HC17
                      try clear c1
                      try clear p1
                      try clear q1
                      try clear hx1
                      try clear qi1
                      try clear c2
                      try clear p2
                      try clear q2
                      try clear c6
                      try clear c6b0
                      try clear p6
                      try clear c9
                      try clear c9b0
                      try clear c10
                      try clear c10b0
                      try clear c10b1
                      try clear c11
                      try clear c11b0
                      try clear c11b1
                      try clear c12
                      try clear c14
                      try clear c14b0
                      try clear p14
                      try clear q14
                      try clear hx14
                      try clear qi14
                      try clear c15
                      try clear c15b0
                      try clear p15
                      try clear q15
                      try clear hx15
                      try clear c16
                      try clear c16b0
                      try clear c16b1
                      try clear c21
                      try clear c24
                      try clear q24
                      try clear c25
                      try clear c26
                      try clear hcz22_0
                      try clear hcz22_1
                      try clear hcz22_2
                      try clear hcz22_3
                      try clear hfz22_0
                      try clear hfz22_1
                      try clear hfz22_2
                      try clear hfz22_3
                      try clear hx146_0
                      try clear hx147_0
                      try clear hx151_0
                      try clear p1
                      try clear p146
                      try clear p147
                      try clear p151
                      try clear p2
                      try clear q1
                      try clear q146
                      try clear q147
                      try clear q151
                      try clear q24
                      obtain ⟨kq, x51_16, rfl, HA, HJ16, HO_4, HO_5, HO_8, BK142, BK152, HB⟩ := hcut
                      cases kq with
                      | zero => exact absurd HA.out (by simp [hurdleref02_Parse.j2])
                      | succ kj16 =>
                        have H := HA.out
                        clear HA
                        simp only [hurdleref02_Parse.j2] at H
                        have HC27 := Aside0.mk H
                        clear H
                        go_upto_if 51 with (fail)
                        repeat (go_quiet (fail); go_upto_if 51 with (fail))
                        go_cut [8] (fun v8 wc => ∃ (kq : Nat) (x8_26 : List ByteArray) (x153003_26 : Int), Aside0 (hurdleref02_Parse.j3 kq a0 l1 t143 x6_1 x8_26 (rd t148 x6_1) 0 0 x153003_26 = some (r1, r2, r3, r4, r5)) ∧ Aside0 (kq ≤ kj16) ∧ Aside0 (Kd.V Kd.string 9 wc w.heap.size (fun k_ => (P1_ k_ ∨ w.heap.size ≤ k_) ∧ some k_ ≠ ((.slice Ao8 t143.length co8) : Value).ownBlock ∧ k_ ≠ gb142 ∧ k_ ≠ gb152) (.slice A1 l1.length c1) l1) ∧ Aside0 (Kd.R Kd.string 9 wc w.heap.size (fun k_ => (w.heap.size ≤ k_)) (.slice Ao8 t143.length co8) t143) ∧ Aside0 (Kd.V Kd.string 9 wc w.heap.size (fun k_ => (P1_ k_ ∨ w.heap.size ≤ k_) ∧ some k_ ≠ ((.slice Ao8 t143.length co8) : Value).ownBlock ∧ k_ ≠ gb142 ∧ k_ ≠ gb152) v8 x8_26) ∧ Aside0 (wc.heap[gb142]? = some (.cells #[.int .i64 x143000_1, .int .i64 x143001_1, .int .i64 x143002_1, .int .u32 x143003_1] 48 (0, 0))) ∧ Aside0 (wc.heap[gb152]? = some (.cells #[.int .i64 (rd t148 x6_1), .int .i64 0, .int .i64 0, .int .u32 x153003_26] 48 (0, 0))) ∧ Aside0 (Below w.heap.size w wc))
                        case first =>
                          have H := HC27.out
                          clear HC27
                          by_cases c28 : x51_16 = true
                          · subst c28
                            have H1 : (if 0 < (y153.length : Int) then ((hurdleref01_Parse.f kj16 (rdOf ByteArray.empty y153 0)).bind fun bt160 => (if 1 ≤ (y153.length : Int) then (hurdleref02_Parse.j3 kj16 a0 l1 t143 x6_1 (y153.drop 1) (rd t148 x6_1) 0 0 ((Int.tmod bt160.1 4294967296) % 4294967296)) else (none))) else (none)) = some (r1, r2, r3, r4, r5) := by rw [if_pos rfl] at H; exact H
                            clear H
                            have H := H1
                            clear H1
                            by_cases c29 : 0 < (y153.length : Int)
                            · rw [if_pos c29] at H
                              have c29b0 : decide (0 < (y153.length : Int)) = true := decide_eq_true c29
                              have c29b1 : decide (0 < y153.length) = true := decide_eq_true (by omega)
                              clear c29
                              (first | rw [c29b0] | (simp only [i64_w, i32_w]; rw [c29b0]) | skip)
                              replace H := Option.bind_eq_some_iff.mp H
                              obtain ⟨⟨t160, t161⟩, A300, H⟩ := H
                              replace H : (if 1 ≤ (y153.length : Int) then (hurdleref02_Parse.j3 kj16 a0 l1 t143 x6_1 (y153.drop 1) (rd t148 x6_1) 0 0 ((Int.tmod t160 4294967296) % 4294967296)) else (none)) = some (r1, r2, r3, r4, r5) := H
                              have A30 := Aside0.mk A300
                              clear A300
                              by_cases c31 : 1 ≤ (y153.length : Int)
                              · rw [if_pos c31] at H
                                have c31b0 := eq_true c31
                                have c31b1 : decide (1 ≤ (y153.length : Int)) = true := decide_eq_true c31
                                clear c31
                                obtain ⟨y162, hy162⟩ : ∃ y_ : List ByteArray, y_ = (y153.drop 1) := ⟨_, rfl⟩
                                replace H : (hurdleref02_Parse.j3 kj16 a0 l1 t143 x6_1 y162 (rd t148 x6_1) 0 0 ((Int.tmod t160 4294967296) % 4294967296)) = some (r1, r2, r3, r4, r5) := by first | (rw [hy162]; with_reducible exact H) | (have H2_ := (Option.bind_some _ _).symm.trans H; rw [hy162]; with_reducible exact H2_) | (have H2_ := (Option.bind_some _ _).symm.trans H; with_reducible exact H2_) | with_reducible exact H | (rw [hy162]; exact H) | exact H
                                have Ny162 := Aside0.mk hy162
                                clear hy162
                                have H' := Aside0.mk H
                                clear H
                                have p159 : 0 ≤ (0 : Int) := (by omega)
                                have q159 : 0 < (y153.length : Int) := of_decide_eq_true (by first | (with_reducible assumption) | assumption)
                                obtain ⟨ad159, e159, hx159_0⟩ := Kd.at_string (Kd.V_reads' HO_8.out).2.2 0 p159 q159
                                cases e159
                                have qi159 : (0 < y153.length) = True := eq_true (by omega)
                                (try rw [show ((0 : Int)).toNat = 0 from rfl] at hx159_0)
                                (try rw [Addr.add_zero'] at hx159_0)
                                replace p159 := eq_true p159
                                replace q159 := eq_true q159
                                go_wp2_with (first | (go_at_call 39; (with_reducible refine (hurdleref01_Parse.calls kj16 (rdOf ByteArray.empty y153 0) t160 t161 _ A30.out).mono ?_); rintro e w32 ⟨rfl, hb⟩; have n0_ := Aside0.mk (Kd.V_below (by (with_reducible repeat (first | apply Kd.V_alloc | apply Kd.V_drewN | apply Kd.V_drew)); exact HO_4.out) hb); have n1_ := Aside0.mk (Kd.R_below (by (with_reducible repeat (first | apply Kd.R_alloc | apply Kd.R_drewN | apply Kd.R_drew)); exact HO_5.out) hb); have n2_ := Aside0.mk (Kd.V_below (by (with_reducible repeat (first | apply Kd.V_alloc | apply Kd.V_drewN | apply Kd.V_drew)); exact HO_8.out) hb); have n3_ := Aside0.mk (blk_below (g := gb142) (o := .cells #[.int .i64 x143000_1, .int .i64 x143001_1, .int .i64 x143002_1, .int .u32 x143003_1] 48 (0, 0)) (by (with_reducible repeat (first | refine blk_drewN ?_ _ | refine blk_drew ?_ | refine blk_alloc ?_ _)); exact BK142.out) hb); have n4_ := Aside0.mk (blk_below (g := gb152) (o := .cells #[.int .i64 (rd t148 x6_1), .int .i64 0, .int .i64 0, .int .u32 0] 48 (0, 0)) (by (with_reducible repeat (first | refine blk_drewN ?_ _ | refine blk_drew ?_ | refine blk_alloc ?_ _)); exact BK152.out) hb); have n5_ := Aside0.mk (below_step (by repeat (first | (with_reducible first | exact HB.out | apply below_alloc | apply pw_below_drewN | apply below_drew1 | refine below_set ?_ GE142.out | refine below_set ?_ GE152.out) | exact HB.out)) hb); clear HO_4; clear HO_5; clear HO_8; clear BK142; clear BK152; clear HB; have HO_4 := n0_; have HO_5 := n1_; have HO_8 := n2_; have BK142 := n3_; have BK152 := n4_; have HB := n5_; clear n0_ n1_ n2_ n3_ n4_ n5_; (try clear hb); (try clear hb2); (try clear hk); (try clear hi); have hnb33 := NB152_142.out; have hnc33 := NB142_152.out; have hcz34_0 : w32.cell? ⟨gb152, 0, none⟩ = some (.int .i64 (rd t148 x6_1)) := (blk_cell BK152.out 0).trans rfl; have hcz34_1 : w32.cell? ⟨gb152, 1, none⟩ = some (.int .i64 0) := (blk_cell BK152.out 1).trans rfl; have hcz34_2 : w32.cell? ⟨gb152, 2, none⟩ = some (.int .i64 0) := (blk_cell BK152.out 2).trans rfl; have hcz34_3 : w32.cell? ⟨gb152, 3, none⟩ = some (.int .u32 0) := (blk_cell BK152.out 3).trans rfl; have hfz34_0 := blk_frozen BK152.out 0; have hfz34_1 := blk_frozen BK152.out 1; have hfz34_2 := blk_frozen BK152.out 2; have hfz34_3 := blk_frozen BK152.out 3) | ((with_reducible refine gate_store (t := 46) (p := 62) rfl ?_); (try (rw [drewN_self w32]; generalize hq_ : World.drewN w32 _ = w32; have n0_ := Aside0.mk (Kd.V_at hq_ HO_4.out); have n1_ := Aside0.mk (Kd.R_at hq_ HO_5.out); have n2_ := Aside0.mk (Kd.V_at hq_ HO_8.out); have n3_ := Aside0.mk (blk_at hq_ BK142.out); have n4_ := Aside0.mk (blk_at hq_ BK152.out); have n5_ := Aside0.mk (below_at hq_ HB.out); clear hq_ HO_4 HO_5 HO_8 BK142 BK152 HB; have HO_4 := n0_; have HO_5 := n1_; have HO_8 := n2_; have BK142 := n3_; have BK152 := n4_; have HB := n5_; clear n0_ n1_ n2_ n3_ n4_ n5_)); refine store_event (t := 46) (p := 62) (v := ?vo_w35) (w1 := (w32.setCell ⟨gb152, 3, none⟩ (.int .u32 ((Int.tmod t160 4294967296) % 4294967296)))) ?hg ?ho ?hn ?hr ?_; (case ho => rfl); (case hg => rfl); (case hn => rfl); (case hr => first | (go_simp; done) | (go_simp; rfl)); intro w35 hw; have n0_ : Aside0 (Kd.V Kd.string 9 w35 w.heap.size (fun k_ => (P1_ k_ ∨ w.heap.size ≤ k_) ∧ some k_ ≠ (.slice Ao8 t143.length co8 : Value).ownBlock ∧ k_ ≠ gb142 ∧ k_ ≠ gb152) (.slice A1 l1.length c1) l1) := ⟨(by rw [hw]; exact (by (with_reducible repeat (first | apply Kd.V_alloc | apply Kd.V_drewN | apply Kd.V_drew)); exact Kd.V_mono (Kd.V_far (p := ⟨gb152, 3, none⟩) (Kd.V_mono HO_4.out (fun k_ hk => (⟨hk, hk.2.2.2⟩ : _ ∧ k_ ≠ gb152))) (fun _ hk => hk.2) (.int .u32 ((Int.tmod t160 4294967296) % 4294967296))) (fun _ hk => ⟨hk.1.1, ⟨hk.1.2.1, ⟨hk.1.2.2.1, hk.1.2.2.2⟩⟩⟩)))⟩; have n1_ : Aside0 (Kd.R Kd.string 9 w35 w.heap.size (fun k_ => (w.heap.size ≤ k_)) (.slice Ao8 t143.length co8) t143) := ⟨(by rw [hw]; exact (by (with_reducible repeat (first | apply Kd.R_alloc | apply Kd.R_drewN | apply Kd.R_drew)); exact Kd.R_mono (Kd.R_far (p := ⟨gb152, 3, none⟩) (Kd.R_types HO_5.out BK152.out (by decide)) (fun _ hk => hk.2) (.int .u32 ((Int.tmod t160 4294967296) % 4294967296))) (fun _ hk => hk.1)))⟩; have n2_ : Aside0 (Kd.V Kd.string 9 w35 w.heap.size (fun k_ => (P1_ k_ ∨ w.heap.size ≤ k_) ∧ some k_ ≠ (.slice Ao8 t143.length co8 : Value).ownBlock ∧ k_ ≠ gb142 ∧ k_ ≠ gb152) (.slice (some ad159) y153.length c24) y153) := ⟨(by rw [hw]; exact (by (with_reducible repeat (first | apply Kd.V_alloc | apply Kd.V_drewN | apply Kd.V_drew)); exact Kd.V_mono (Kd.V_far (p := ⟨gb152, 3, none⟩) (Kd.V_mono HO_8.out (fun k_ hk => (⟨hk, hk.2.2.2⟩ : _ ∧ k_ ≠ gb152))) (fun _ hk => hk.2) (.int .u32 ((Int.tmod t160 4294967296) % 4294967296))) (fun _ hk => ⟨hk.1.1, ⟨hk.1.2.1, ⟨hk.1.2.2.1, hk.1.2.2.2⟩⟩⟩)))⟩; have n3_ : Aside0 (w35.heap[gb142]? = some (.cells #[.int .i64 x143000_1, .int .i64 x143001_1, .int .i64 x143002_1, .int .u32 x143003_1] 48 (0, 0))) := ⟨(by rw [hw]; exact (by (with_reducible repeat (first | refine blk_drewN ?_ _ | refine blk_drew ?_ | refine blk_alloc ?_ _)); refine blk_far ?_ NB142_152.out _; (with_reducible repeat (first | refine blk_drewN ?_ _ | refine blk_drew ?_ | refine blk_alloc ?_ _)); exact BK142.out))⟩; have n4_ : Aside0 (w35.heap[gb152]? = some (.cells #[.int .i64 (rd t148 x6_1), .int .i64 0, .int .i64 0, .int .u32 ((Int.tmod t160 4294967296) % 4294967296)] 48 (0, 0))) := ⟨(by rw [hw]; exact (by (with_reducible repeat (first | refine blk_drewN ?_ _ | refine blk_drew ?_ | refine blk_alloc ?_ _)); refine blk_put (cs := #[.int .i64 (rd t148 x6_1), .int .i64 0, .int .i64 0, .int .u32 0]) ?_ 3 _ rfl; (with_reducible repeat (first | refine blk_drewN ?_ _ | refine blk_drew ?_ | refine blk_alloc ?_ _)); exact BK152.out))⟩; have n5_ : Aside0 (Below w.heap.size w w35) := ⟨(by rw [hw]; exact (by repeat (first | (with_reducible first | exact HB.out | apply below_alloc | apply pw_below_drewN | apply below_drew1 | refine below_set ?_ GE142.out | refine below_set ?_ GE152.out) | exact HB.out)))⟩; clear hw; clear HO_4; clear HO_5; clear HO_8; clear BK142; clear BK152; clear HB; have HO_4 := n0_; have HO_5 := n1_; have HO_8 := n2_; have BK142 := n3_; have BK152 := n4_; have HB := n5_; clear n0_ n1_ n2_ n3_ n4_ n5_; have q36 : (1 : Int) ≤ ((y153.length : Int) : Int) := of_decide_eq_true (by first | (with_reducible assumption) | assumption); obtain ⟨i036, hi036, _, hsz36, _⟩ := info_parts info9; have hroom36 : y153.length ≤ c24 := (Kd.V_reads' HO_8.out).2.1; have hC36 : Kd.F Kd.string _ _ (some ad159) y153.length y153 := (Kd.V_at (base := w.heap.size) HO_8.out).2.2; have hcut36 := cut_from (P := Tryd.prog) 53 9 .i64 Tryd.underlying53 hi036 1 hsz36 (some ad159) y153.length c24 1 (by omega) q36; have hr36 := Kd.F_cut (m := (1 : Int).toNat) (c := c24) hC36 (by omega) hroom36; obtain ⟨A36, hA36⟩ : ∃ A_, A_ = (if c24 = (1 : Int).toNat then (some ad159) else ((some ad159) : Option Addr).map (·.add ((1 : Int).toNat * 1))) := ⟨_, rfl⟩; obtain ⟨c36, hc36⟩ : ∃ c1, c1 = c24 - (1 : Int).toNat := ⟨_, rfl⟩; have hy36 : y162.length = y153.length - (1 : Int).toNat := (by rw [Ny162.out, List.length_drop] <;> omega); rw [show (y153).drop (1 : Int).toNat = y162 from Ny162.out.symm] at hr36; replace hr36 : Kd.F Kd.string _ _ A36 y162.length y162 := (by rw [hA36]; exact hr36); rw [← hy36, ← hA36, ← hc36] at hcut36; have HO166 := Aside0.mk (show Kd.V Kd.string 9 _ w.heap.size _ (.slice A36 y162.length c36) y162 from Kd.V_mk (by rw [hy36, hc36]; exact Nat.sub_le_sub_right hroom36 _) hr36); have HC166 := Aside0.mk (show y162.length ≤ c36 from by rw [hy36, hc36]; exact Nat.sub_le_sub_right hroom36 _); clear hr36 hC36 hroom36 hi036 hsz36 hc36; have KY36 := Aside0.mk hy36; have KA36 := Aside0.mk hA36; clear hy36 hA36; replace q36 := eq_true q36))
                                repeat (go_quiet (first | (go_at_call 39; (with_reducible refine (hurdleref01_Parse.calls kj16 (rdOf ByteArray.empty y153 0) t160 t161 _ A30.out).mono ?_); rintro e w32 ⟨rfl, hb⟩; have n0_ := Aside0.mk (Kd.V_below (by (with_reducible repeat (first | apply Kd.V_alloc | apply Kd.V_drewN | apply Kd.V_drew)); exact HO_4.out) hb); have n1_ := Aside0.mk (Kd.R_below (by (with_reducible repeat (first | apply Kd.R_alloc | apply Kd.R_drewN | apply Kd.R_drew)); exact HO_5.out) hb); have n2_ := Aside0.mk (Kd.V_below (by (with_reducible repeat (first | apply Kd.V_alloc | apply Kd.V_drewN | apply Kd.V_drew)); exact HO_8.out) hb); have n3_ := Aside0.mk (blk_below (g := gb142) (o := .cells #[.int .i64 x143000_1, .int .i64 x143001_1, .int .i64 x143002_1, .int .u32 x143003_1] 48 (0, 0)) (by (with_reducible repeat (first | refine blk_drewN ?_ _ | refine blk_drew ?_ | refine blk_alloc ?_ _)); exact BK142.out) hb); have n4_ := Aside0.mk (blk_below (g := gb152) (o := .cells #[.int .i64 (rd t148 x6_1), .int .i64 0, .int .i64 0, .int .u32 0] 48 (0, 0)) (by (with_reducible repeat (first | refine blk_drewN ?_ _ | refine blk_drew ?_ | refine blk_alloc ?_ _)); exact BK152.out) hb); have n5_ := Aside0.mk (below_step (by repeat (first | (with_reducible first | exact HB.out | apply below_alloc | apply pw_below_drewN | apply below_drew1 | refine below_set ?_ GE142.out | refine below_set ?_ GE152.out) | exact HB.out)) hb); clear HO_4; clear HO_5; clear HO_8; clear BK142; clear BK152; clear HB; have HO_4 := n0_; have HO_5 := n1_; have HO_8 := n2_; have BK142 := n3_; have BK152 := n4_; have HB := n5_; clear n0_ n1_ n2_ n3_ n4_ n5_; (try clear hb); (try clear hb2); (try clear hk); (try clear hi); have hnb33 := NB152_142.out; have hnc33 := NB142_152.out; have hcz34_0 : w32.cell? ⟨gb152, 0, none⟩ = some (.int .i64 (rd t148 x6_1)) := (blk_cell BK152.out 0).trans rfl; have hcz34_1 : w32.cell? ⟨gb152, 1, none⟩ = some (.int .i64 0) := (blk_cell BK152.out 1).trans rfl; have hcz34_2 : w32.cell? ⟨gb152, 2, none⟩ = some (.int .i64 0) := (blk_cell BK152.out 2).trans rfl; have hcz34_3 : w32.cell? ⟨gb152, 3, none⟩ = some (.int .u32 0) := (blk_cell BK152.out 3).trans rfl; have hfz34_0 := blk_frozen BK152.out 0; have hfz34_1 := blk_frozen BK152.out 1; have hfz34_2 := blk_frozen BK152.out 2; have hfz34_3 := blk_frozen BK152.out 3) | ((with_reducible refine gate_store (t := 46) (p := 62) rfl ?_); (try (rw [drewN_self w32]; generalize hq_ : World.drewN w32 _ = w32; have n0_ := Aside0.mk (Kd.V_at hq_ HO_4.out); have n1_ := Aside0.mk (Kd.R_at hq_ HO_5.out); have n2_ := Aside0.mk (Kd.V_at hq_ HO_8.out); have n3_ := Aside0.mk (blk_at hq_ BK142.out); have n4_ := Aside0.mk (blk_at hq_ BK152.out); have n5_ := Aside0.mk (below_at hq_ HB.out); clear hq_ HO_4 HO_5 HO_8 BK142 BK152 HB; have HO_4 := n0_; have HO_5 := n1_; have HO_8 := n2_; have BK142 := n3_; have BK152 := n4_; have HB := n5_; clear n0_ n1_ n2_ n3_ n4_ n5_)); refine store_event (t := 46) (p := 62) (v := ?vo_w35) (w1 := (w32.setCell ⟨gb152, 3, none⟩ (.int .u32 ((Int.tmod t160 4294967296) % 4294967296)))) ?hg ?ho ?hn ?hr ?_; (case ho => rfl); (case hg => rfl); (case hn => rfl); (case hr => first | (go_simp; done) | (go_simp; rfl)); intro w35 hw; have n0_ : Aside0 (Kd.V Kd.string 9 w35 w.heap.size (fun k_ => (P1_ k_ ∨ w.heap.size ≤ k_) ∧ some k_ ≠ (.slice Ao8 t143.length co8 : Value).ownBlock ∧ k_ ≠ gb142 ∧ k_ ≠ gb152) (.slice A1 l1.length c1) l1) := ⟨(by rw [hw]; exact (by (with_reducible repeat (first | apply Kd.V_alloc | apply Kd.V_drewN | apply Kd.V_drew)); exact Kd.V_mono (Kd.V_far (p := ⟨gb152, 3, none⟩) (Kd.V_mono HO_4.out (fun k_ hk => (⟨hk, hk.2.2.2⟩ : _ ∧ k_ ≠ gb152))) (fun _ hk => hk.2) (.int .u32 ((Int.tmod t160 4294967296) % 4294967296))) (fun _ hk => ⟨hk.1.1, ⟨hk.1.2.1, ⟨hk.1.2.2.1, hk.1.2.2.2⟩⟩⟩)))⟩; have n1_ : Aside0 (Kd.R Kd.string 9 w35 w.heap.size (fun k_ => (w.heap.size ≤ k_)) (.slice Ao8 t143.length co8) t143) := ⟨(by rw [hw]; exact (by (with_reducible repeat (first | apply Kd.R_alloc | apply Kd.R_drewN | apply Kd.R_drew)); exact Kd.R_mono (Kd.R_far (p := ⟨gb152, 3, none⟩) (Kd.R_types HO_5.out BK152.out (by decide)) (fun _ hk => hk.2) (.int .u32 ((Int.tmod t160 4294967296) % 4294967296))) (fun _ hk => hk.1)))⟩; have n2_ : Aside0 (Kd.V Kd.string 9 w35 w.heap.size (fun k_ => (P1_ k_ ∨ w.heap.size ≤ k_) ∧ some k_ ≠ (.slice Ao8 t143.length co8 : Value).ownBlock ∧ k_ ≠ gb142 ∧ k_ ≠ gb152) (.slice (some ad159) y153.length c24) y153) := ⟨(by rw [hw]; exact (by (with_reducible repeat (first | apply Kd.V_alloc | apply Kd.V_drewN | apply Kd.V_drew)); exact Kd.V_mono (Kd.V_far (p := ⟨gb152, 3, none⟩) (Kd.V_mono HO_8.out (fun k_ hk => (⟨hk, hk.2.2.2⟩ : _ ∧ k_ ≠ gb152))) (fun _ hk => hk.2) (.int .u32 ((Int.tmod t160 4294967296) % 4294967296))) (fun _ hk => ⟨hk.1.1, ⟨hk.1.2.1, ⟨hk.1.2.2.1, hk.1.2.2.2⟩⟩⟩)))⟩; have n3_ : Aside0 (w35.heap[gb142]? = some (.cells #[.int .i64 x143000_1, .int .i64 x143001_1, .int .i64 x143002_1, .int .u32 x143003_1] 48 (0, 0))) := ⟨(by rw [hw]; exact (by (with_reducible repeat (first | refine blk_drewN ?_ _ | refine blk_drew ?_ | refine blk_alloc ?_ _)); refine blk_far ?_ NB142_152.out _; (with_reducible repeat (first | refine blk_drewN ?_ _ | refine blk_drew ?_ | refine blk_alloc ?_ _)); exact BK142.out))⟩; have n4_ : Aside0 (w35.heap[gb152]? = some (.cells #[.int .i64 (rd t148 x6_1), .int .i64 0, .int .i64 0, .int .u32 ((Int.tmod t160 4294967296) % 4294967296)] 48 (0, 0))) := ⟨(by rw [hw]; exact (by (with_reducible repeat (first | refine blk_drewN ?_ _ | refine blk_drew ?_ | refine blk_alloc ?_ _)); refine blk_put (cs := #[.int .i64 (rd t148 x6_1), .int .i64 0, .int .i64 0, .int .u32 0]) ?_ 3 _ rfl; (with_reducible repeat (first | refine blk_drewN ?_ _ | refine blk_drew ?_ | refine blk_alloc ?_ _)); exact BK152.out))⟩; have n5_ : Aside0 (Below w.heap.size w w35) := ⟨(by rw [hw]; exact (by repeat (first | (with_reducible first | exact HB.out | apply below_alloc | apply pw_below_drewN | apply below_drew1 | refine below_set ?_ GE142.out | refine below_set ?_ GE152.out) | exact HB.out)))⟩; clear hw; clear HO_4; clear HO_5; clear HO_8; clear BK142; clear BK152; clear HB; have HO_4 := n0_; have HO_5 := n1_; have HO_8 := n2_; have BK142 := n3_; have BK152 := n4_; have HB := n5_; clear n0_ n1_ n2_ n3_ n4_ n5_; have q36 : (1 : Int) ≤ ((y153.length : Int) : Int) := of_decide_eq_true (by first | (with_reducible assumption) | assumption); obtain ⟨i036, hi036, _, hsz36, _⟩ := info_parts info9; have hroom36 : y153.length ≤ c24 := (Kd.V_reads' HO_8.out).2.1; have hC36 : Kd.F Kd.string _ _ (some ad159) y153.length y153 := (Kd.V_at (base := w.heap.size) HO_8.out).2.2; have hcut36 := cut_from (P := Tryd.prog) 53 9 .i64 Tryd.underlying53 hi036 1 hsz36 (some ad159) y153.length c24 1 (by omega) q36; have hr36 := Kd.F_cut (m := (1 : Int).toNat) (c := c24) hC36 (by omega) hroom36; obtain ⟨A36, hA36⟩ : ∃ A_, A_ = (if c24 = (1 : Int).toNat then (some ad159) else ((some ad159) : Option Addr).map (·.add ((1 : Int).toNat * 1))) := ⟨_, rfl⟩; obtain ⟨c36, hc36⟩ : ∃ c1, c1 = c24 - (1 : Int).toNat := ⟨_, rfl⟩; have hy36 : y162.length = y153.length - (1 : Int).toNat := (by rw [Ny162.out, List.length_drop] <;> omega); rw [show (y153).drop (1 : Int).toNat = y162 from Ny162.out.symm] at hr36; replace hr36 : Kd.F Kd.string _ _ A36 y162.length y162 := (by rw [hA36]; exact hr36); rw [← hy36, ← hA36, ← hc36] at hcut36; have HO166 := Aside0.mk (show Kd.V Kd.string 9 _ w.heap.size _ (.slice A36 y162.length c36) y162 from Kd.V_mk (by rw [hy36, hc36]; exact Nat.sub_le_sub_right hroom36 _) hr36); have HC166 := Aside0.mk (show y162.length ≤ c36 from by rw [hy36, hc36]; exact Nat.sub_le_sub_right hroom36 _); clear hr36 hC36 hroom36 hi036 hsz36 hc36; have KY36 := Aside0.mk hy36; have KA36 := Aside0.mk hA36; clear hy36 hA36; replace q36 := eq_true q36)); try go_wp2_with (first | (go_at_call 39; (with_reducible refine (hurdleref01_Parse.calls kj16 (rdOf ByteArray.empty y153 0) t160 t161 _ A30.out).mono ?_); rintro e w32 ⟨rfl, hb⟩; have n0_ := Aside0.mk (Kd.V_below (by (with_reducible repeat (first | apply Kd.V_alloc | apply Kd.V_drewN | apply Kd.V_drew)); exact HO_4.out) hb); have n1_ := Aside0.mk (Kd.R_below (by (with_reducible repeat (first | apply Kd.R_alloc | apply Kd.R_drewN | apply Kd.R_drew)); exact HO_5.out) hb); have n2_ := Aside0.mk (Kd.V_below (by (with_reducible repeat (first | apply Kd.V_alloc | apply Kd.V_drewN | apply Kd.V_drew)); exact HO_8.out) hb); have n3_ := Aside0.mk (blk_below (g := gb142) (o := .cells #[.int .i64 x143000_1, .int .i64 x143001_1, .int .i64 x143002_1, .int .u32 x143003_1] 48 (0, 0)) (by (with_reducible repeat (first | refine blk_drewN ?_ _ | refine blk_drew ?_ | refine blk_alloc ?_ _)); exact BK142.out) hb); have n4_ := Aside0.mk (blk_below (g := gb152) (o := .cells #[.int .i64 (rd t148 x6_1), .int .i64 0, .int .i64 0, .int .u32 0] 48 (0, 0)) (by (with_reducible repeat (first | refine blk_drewN ?_ _ | refine blk_drew ?_ | refine blk_alloc ?_ _)); exact BK152.out) hb); have n5_ := Aside0.mk (below_step (by repeat (first | (with_reducible first | exact HB.out | apply below_alloc | apply pw_below_drewN | apply below_drew1 | refine below_set ?_ GE142.out | refine below_set ?_ GE152.out) | exact HB.out)) hb); clear HO_4; clear HO_5; clear HO_8; clear BK142; clear BK152; clear HB; have HO_4 := n0_; have HO_5 := n1_; have HO_8 := n2_; have BK142 := n3_; have BK152 := n4_; have HB := n5_; clear n0_ n1_ n2_ n3_ n4_ n5_; (try clear hb); (try clear hb2); (try clear hk); (try clear hi); have hnb33 := NB152_142.out; have hnc33 := NB142_152.out; have hcz34_0 : w32.cell? ⟨gb152, 0, none⟩ = some (.int .i64 (rd t148 x6_1)) := (blk_cell BK152.out 0).trans rfl; have hcz34_1 : w32.cell? ⟨gb152, 1, none⟩ = some (.int .i64 0) := (blk_cell BK152.out 1).trans rfl; have hcz34_2 : w32.cell? ⟨gb152, 2, none⟩ = some (.int .i64 0) := (blk_cell BK152.out 2).trans rfl; have hcz34_3 : w32.cell? ⟨gb152, 3, none⟩ = some (.int .u32 0) := (blk_cell BK152.out 3).trans rfl; have hfz34_0 := blk_frozen BK152.out 0; have hfz34_1 := blk_frozen BK152.out 1; have hfz34_2 := blk_frozen BK152.out 2; have hfz34_3 := blk_frozen BK152.out 3) | ((with_reducible refine gate_store (t := 46) (p := 62) rfl ?_); (try (rw [drewN_self w32]; generalize hq_ : World.drewN w32 _ = w32; have n0_ := Aside0.mk (Kd.V_at hq_ HO_4.out); have n1_ := Aside0.mk (Kd.R_at hq_ HO_5.out); have n2_ := Aside0.mk (Kd.V_at hq_ HO_8.out); have n3_ := Aside0.mk (blk_at hq_ BK142.out); have n4_ := Aside0.mk (blk_at hq_ BK152.out); have n5_ := Aside0.mk (below_at hq_ HB.out); clear hq_ HO_4 HO_5 HO_8 BK142 BK152 HB; have HO_4 := n0_; have HO_5 := n1_; have HO_8 := n2_; have BK142 := n3_; have BK152 := n4_; have HB := n5_; clear n0_ n1_ n2_ n3_ n4_ n5_)); refine store_event (t := 46) (p := 62) (v := ?vo_w35) (w1 := (w32.setCell ⟨gb152, 3, none⟩ (.int .u32 ((Int.tmod t160 4294967296) % 4294967296)))) ?hg ?ho ?hn ?hr ?_; (case ho => rfl); (case hg => rfl); (case hn => rfl); (case hr => first | (go_simp; done) | (go_simp; rfl)); intro w35 hw; have n0_ : Aside0 (Kd.V Kd.string 9 w35 w.heap.size (fun k_ => (P1_ k_ ∨ w.heap.size ≤ k_) ∧ some k_ ≠ (.slice Ao8 t143.length co8 : Value).ownBlock ∧ k_ ≠ gb142 ∧ k_ ≠ gb152) (.slice A1 l1.length c1) l1) := ⟨(by rw [hw]; exact (by (with_reducible repeat (first | apply Kd.V_alloc | apply Kd.V_drewN | apply Kd.V_drew)); exact Kd.V_mono (Kd.V_far (p := ⟨gb152, 3, none⟩) (Kd.V_mono HO_4.out (fun k_ hk => (⟨hk, hk.2.2.2⟩ : _ ∧ k_ ≠ gb152))) (fun _ hk => hk.2) (.int .u32 ((Int.tmod t160 4294967296) % 4294967296))) (fun _ hk => ⟨hk.1.1, ⟨hk.1.2.1, ⟨hk.1.2.2.1, hk.1.2.2.2⟩⟩⟩)))⟩; have n1_ : Aside0 (Kd.R Kd.string 9 w35 w.heap.size (fun k_ => (w.heap.size ≤ k_)) (.slice Ao8 t143.length co8) t143) := ⟨(by rw [hw]; exact (by (with_reducible repeat (first | apply Kd.R_alloc | apply Kd.R_drewN | apply Kd.R_drew)); exact Kd.R_mono (Kd.R_far (p := ⟨gb152, 3, none⟩) (Kd.R_types HO_5.out BK152.out (by decide)) (fun _ hk => hk.2) (.int .u32 ((Int.tmod t160 4294967296) % 4294967296))) (fun _ hk => hk.1)))⟩; have n2_ : Aside0 (Kd.V Kd.string 9 w35 w.heap.size (fun k_ => (P1_ k_ ∨ w.heap.size ≤ k_) ∧ some k_ ≠ (.slice Ao8 t143.length co8 : Value).ownBlock ∧ k_ ≠ gb142 ∧ k_ ≠ gb152) (.slice (some ad159) y153.length c24) y153) := ⟨(by rw [hw]; exact (by (with_reducible repeat (first | apply Kd.V_alloc | apply Kd.V_drewN | apply Kd.V_drew)); exact Kd.V_mono (Kd.V_far (p := ⟨gb152, 3, none⟩) (Kd.V_mono HO_8.out (fun k_ hk => (⟨hk, hk.2.2.2⟩ : _ ∧ k_ ≠ gb152))) (fun _ hk => hk.2) (.int .u32 ((Int.tmod t160 4294967296) % 4294967296))) (fun _ hk => ⟨hk.1.1, ⟨hk.1.2.1, ⟨hk.1.2.2.1, hk.1.2.2.2⟩⟩⟩)))⟩; have n3_ : Aside0 (w35.heap[gb142]? = some (.cells #[.int .i64 x143000_1, .int .i64 x143001_1, .int .i64 x143002_1, .int .u32 x143003_1] 48 (0, 0))) := ⟨(by rw [hw]; exact (by (with_reducible repeat (first | refine blk_drewN ?_ _ | refine blk_drew ?_ | refine blk_alloc ?_ _)); refine blk_far ?_ NB142_152.out _; (with_reducible repeat (first | refine blk_drewN ?_ _ | refine blk_drew ?_ | refine blk_alloc ?_ _)); exact BK142.out))⟩; have n4_ : Aside0 (w35.heap[gb152]? = some (.cells #[.int .i64 (rd t148 x6_1), .int .i64 0, .int .i64 0, .int .u32 ((Int.tmod t160 4294967296) % 4294967296)] 48 (0, 0))) := ⟨(by rw [hw]; exact (by (with_reducible repeat (first | refine blk_drewN ?_ _ | refine blk_drew ?_ | refine blk_alloc ?_ _)); refine blk_put (cs := #[.int .i64 (rd t148 x6_1), .int .i64 0, .int .i64 0, .int .u32 0]) ?_ 3 _ rfl; (with_reducible repeat (first | refine blk_drewN ?_ _ | refine blk_drew ?_ | refine blk_alloc ?_ _)); exact BK152.out))⟩; have n5_ : Aside0 (Below w.heap.size w w35) := ⟨(by rw [hw]; exact (by repeat (first | (with_reducible first | exact HB.out | apply below_alloc | apply pw_below_drewN | apply below_drew1 | refine below_set ?_ GE142.out | refine below_set ?_ GE152.out) | exact HB.out)))⟩; clear hw; clear HO_4; clear HO_5; clear HO_8; clear BK142; clear BK152; clear HB; have HO_4 := n0_; have HO_5 := n1_; have HO_8 := n2_; have BK142 := n3_; have BK152 := n4_; have HB := n5_; clear n0_ n1_ n2_ n3_ n4_ n5_; have q36 : (1 : Int) ≤ ((y153.length : Int) : Int) := of_decide_eq_true (by first | (with_reducible assumption) | assumption); obtain ⟨i036, hi036, _, hsz36, _⟩ := info_parts info9; have hroom36 : y153.length ≤ c24 := (Kd.V_reads' HO_8.out).2.1; have hC36 : Kd.F Kd.string _ _ (some ad159) y153.length y153 := (Kd.V_at (base := w.heap.size) HO_8.out).2.2; have hcut36 := cut_from (P := Tryd.prog) 53 9 .i64 Tryd.underlying53 hi036 1 hsz36 (some ad159) y153.length c24 1 (by omega) q36; have hr36 := Kd.F_cut (m := (1 : Int).toNat) (c := c24) hC36 (by omega) hroom36; obtain ⟨A36, hA36⟩ : ∃ A_, A_ = (if c24 = (1 : Int).toNat then (some ad159) else ((some ad159) : Option Addr).map (·.add ((1 : Int).toNat * 1))) := ⟨_, rfl⟩; obtain ⟨c36, hc36⟩ : ∃ c1, c1 = c24 - (1 : Int).toNat := ⟨_, rfl⟩; have hy36 : y162.length = y153.length - (1 : Int).toNat := (by rw [Ny162.out, List.length_drop] <;> omega); rw [show (y153).drop (1 : Int).toNat = y162 from Ny162.out.symm] at hr36; replace hr36 : Kd.F Kd.string _ _ A36 y162.length y162 := (by rw [hA36]; exact hr36); rw [← hy36, ← hA36, ← hc36] at hcut36; have HO166 := Aside0.mk (show Kd.V Kd.string 9 _ w.heap.size _ (.slice A36 y162.length c36) y162 from Kd.V_mk (by rw [hy36, hc36]; exact Nat.sub_le_sub_right hroom36 _) hr36); have HC166 := Aside0.mk (show y162.length ≤ c36 from by rw [hy36, hc36]; exact Nat.sub_le_sub_right hroom36 _); clear hr36 hC36 hroom36 hi036 hsz36 hc36; have KY36 := Aside0.mk hy36; have KA36 := Aside0.mk hA36; clear hy36 hA36; replace q36 := eq_true q36)))
                                go_meet
                                case rel => exact ⟨_, (y162), ((Int.tmod t160 4294967296) % 4294967296), H', ⟨by have := HK1.out; have := HJ6.out; have := HJ16.out; first | omega | exact Nat.le_refl _⟩, ⟨by (with_reducible repeat (first | apply Kd.V_alloc | apply Kd.V_drewN | apply Kd.V_drew)); exact HO_4.out⟩, ⟨by (with_reducible repeat (first | apply Kd.R_alloc | apply Kd.R_drewN | apply Kd.R_drew)); exact HO_5.out⟩, ⟨by (with_reducible repeat (first | apply Kd.V_alloc | apply Kd.V_drewN | apply Kd.V_drew)); exact HO166.out⟩, ⟨by (with_reducible repeat (first | refine blk_drewN ?_ _ | refine blk_drew ?_ | refine blk_alloc ?_ _)); exact BK142.out⟩, ⟨by (with_reducible repeat (first | refine blk_drewN ?_ _ | refine blk_drew ?_ | refine blk_alloc ?_ _)); exact BK152.out⟩, ⟨by repeat (first | (with_reducible first | exact HB.out | apply below_alloc | apply pw_below_drewN | apply below_drew1 | refine below_set ?_ GE142.out | refine below_set ?_ GE152.out) | exact HB.out)⟩⟩
                              · rw [if_neg c31] at H
                                exact absurd H (by simp)
                            · rw [if_neg c29] at H
                              exact absurd H (by simp)
                          · replace c28 := Bool.eq_false_iff.mpr c28
                            subst c28
                            have H1 : (hurdleref02_Parse.j3 kj16 a0 l1 t143 x6_1 y153 (rd t148 x6_1) 0 0 0) = some (r1, r2, r3, r4, r5) := by rw [if_neg (show ¬ (false = true) by decide)] at H; exact H
                            clear H
                            have H := H1
                            clear H1
                            have H' := Aside0.mk H
                            clear H
                            go_wp2
                            repeat (go_quiet (fail); try go_wp2)
                            go_meet
                            case rel => exact ⟨_, (y153), (0), H', ⟨by have := HK1.out; have := HJ6.out; have := HJ16.out; first | omega | exact Nat.le_refl _⟩, ⟨by (with_reducible repeat (first | apply Kd.V_alloc | apply Kd.V_drewN | apply Kd.V_drew)); exact HO_4.out⟩, ⟨by (with_reducible repeat (first | apply Kd.R_alloc | apply Kd.R_drewN | apply Kd.R_drew)); exact HO_5.out⟩, ⟨by (with_reducible repeat (first | apply Kd.V_alloc | apply Kd.V_drewN | apply Kd.V_drew)); exact HO_8.out⟩, ⟨by (with_reducible repeat (first | refine blk_drewN ?_ _ | refine blk_drew ?_ | refine blk_alloc ?_ _)); exact BK142.out⟩, ⟨by (with_reducible repeat (first | refine blk_drewN ?_ _ | refine blk_drew ?_ | refine blk_alloc ?_ _)); exact BK152.out⟩, ⟨by repeat (first | (with_reducible first | exact HB.out | apply below_alloc | apply pw_below_drewN | apply below_drew1 | refine below_set ?_ GE142.out | refine below_set ?_ GE152.out) | exact HB.out)⟩⟩
                        case rest =>
                          clear HC27
                          try clear c1
                          try clear p1
                          try clear q1
                          try clear hx1
                          try clear qi1
                          try clear c2
                          try clear p2
                          try clear q2
                          try clear c3
                          try clear q3
                          try clear c6
                          try clear c6b0
                          try clear p6
                          try clear c9
                          try clear c9b0
                          try clear c10
                          try clear c10b0
                          try clear c10b1
                          try clear c11
                          try clear c11b0
                          try clear c11b1
                          try clear c12
                          try clear c14
                          try clear c14b0
                          try clear p14
                          try clear q14
                          try clear hx14
                          try clear qi14
                          try clear c15
                          try clear c15b0
                          try clear p15
                          try clear q15
                          try clear hx15
                          try clear qi15
                          try clear c16
                          try clear c16b0
                          try clear c16b1
                          try clear c21
                          try clear c24
                          try clear q24
                          try clear c25
                          try clear c26
                          try clear c28
                          try clear c29
                          try clear c29b0
                          try clear c29b1
                          try clear c31
                          try clear c31b0
                          try clear c31b1
                          try clear c33
                          try clear c36
                          try clear q36
                          try clear hcz22_0
                          try clear hcz22_1
                          try clear hcz22_2
                          try clear hcz22_3
                          try clear hcz34_0
                          try clear hcz34_1
                          try clear hcz34_2
                          try clear hcz34_3
                          try clear hfz22_0
                          try clear hfz22_1
                          try clear hfz22_2
                          try clear hfz22_3
                          try clear hfz34_0
                          try clear hfz34_1
                          try clear hfz34_2
                          try clear hfz34_3
                          try clear hx146_0
                          try clear hx147_0
                          try clear hx151_0
                          try clear hx159_0
                          try clear p1
                          try clear p14
                          try clear p146
                          try clear p147
                          try clear p15
                          try clear p151
                          try clear p159
                          try clear p2
                          try clear p6
                          try clear q1
                          try clear q14
                          try clear q146
                          try clear q147
                          try clear q15
                          try clear q151
                          try clear q159
                          try clear q2
                          try clear q24
                          try clear q36
                          obtain ⟨kq, x8_26, x153003_26, HA, HJ26, HO_4, HO_5, HO_8, BK142, BK152, HB⟩ := hcut
                          cases kq with
                          | zero => exact absurd HA.out (by simp [hurdleref02_Parse.j3])
                          | succ kj26 =>
                            have H := HA.out
                            clear HA
                            simp only [hurdleref02_Parse.j3] at H
                            have HC37 := Aside0.mk H
                            clear H
                            go_upto_region 13 with (fail)
                            repeat (go_quiet (fail); go_upto_region 13 with (fail))
                            go_cut [71] (fun v71 wc => ∃ (kq : Nat) (x71_36 : Bool), v71 = .bool x71_36 ∧ Aside0 (hurdleref02_Parse.j4 kq a0 l1 t143 x6_1 x8_26 x71_36 (rd t148 x6_1) 0 0 x153003_26 = some (r1, r2, r3, r4, r5)) ∧ Aside0 (kq ≤ kj26) ∧ Aside0 (Kd.V Kd.string 9 wc w.heap.size (fun k_ => (P1_ k_ ∨ w.heap.size ≤ k_) ∧ some k_ ≠ ((.slice Ao8 t143.length co8) : Value).ownBlock ∧ k_ ≠ gb142 ∧ k_ ≠ gb152) (.slice A1 l1.length c1) l1) ∧ Aside0 (Kd.R Kd.string 9 wc w.heap.size (fun k_ => (w.heap.size ≤ k_)) (.slice Ao8 t143.length co8) t143) ∧ Aside0 (Kd.V Kd.string 9 wc w.heap.size (fun k_ => (P1_ k_ ∨ w.heap.size ≤ k_) ∧ some k_ ≠ ((.slice Ao8 t143.length co8) : Value).ownBlock ∧ k_ ≠ gb142 ∧ k_ ≠ gb152) u8 x8_26) ∧ Aside0 (wc.heap[gb142]? = some (.cells #[.int .i64 x143000_1, .int .i64 x143001_1, .int .i64 x143002_1, .int .u32 x143003_1] 48 (0, 0))) ∧ Aside0 (wc.heap[gb152]? = some (.cells #[.int .i64 (rd t148 x6_1), .int .i64 0, .int .i64 0, .int .u32 x153003_26] 48 (0, 0))) ∧ Aside0 (Below w.heap.size w wc))
                            case first =>
                              have H := HC37.out
                              clear HC37
                              replace H := Option.bind_eq_some_iff.mp H
                              obtain ⟨t167, A380, H⟩ := H
                              replace H : (if t167 = true then (hurdleref02_Parse.j4 kj26 a0 l1 t143 x6_1 x8_26 ((x8_26.length : Int) == 2) (rd t148 x6_1) 0 0 x153003_26) else (hurdleref02_Parse.j4 kj26 a0 l1 t143 x6_1 x8_26 false (rd t148 x6_1) 0 0 x153003_26)) = some (r1, r2, r3, r4, r5) := H
                              have A38 := Aside0.mk A380
                              clear A380
                              by_cases c39 : t167 = true
                              · subst c39
                                have H1 : (hurdleref02_Parse.j4 kj26 a0 l1 t143 x6_1 x8_26 ((x8_26.length : Int) == 2) (rd t148 x6_1) 0 0 x153003_26) = some (r1, r2, r3, r4, r5) := by rw [if_pos rfl] at H; exact H
                                clear H
                                have H := H1
                                clear H1
                                have H' := Aside0.mk H
                                clear H
                                go_wp2_with (first | (go_at_call 33; (with_reducible refine (hurdleref02_branch.calls x6_1 true _ A38.out).mono ?_); rintro e w' ⟨rfl, ⟨nd, rfl⟩⟩; (try first | exact ⟨rfl, _, World.drewN_drewN _ _ _⟩ | exact ⟨rfl, _, Eq.trans (World.drewN_drewN _ _ _) (congrArg (World.drewN _) (Nat.add_assoc _ _ _))⟩); obtain ⟨Ao40, co40, eo40⟩ := Kd.V_slice HO_8.out; subst eo40))
                                repeat (go_quiet (first | (go_at_call 33; (with_reducible refine (hurdleref02_branch.calls x6_1 true _ A38.out).mono ?_); rintro e w' ⟨rfl, ⟨nd, rfl⟩⟩; (try first | exact ⟨rfl, _, World.drewN_drewN _ _ _⟩ | exact ⟨rfl, _, Eq.trans (World.drewN_drewN _ _ _) (congrArg (World.drewN _) (Nat.add_assoc _ _ _))⟩); obtain ⟨Ao40, co40, eo40⟩ := Kd.V_slice HO_8.out; subst eo40)); try go_wp2_with (first | (go_at_call 33; (with_reducible refine (hurdleref02_branch.calls x6_1 true _ A38.out).mono ?_); rintro e w' ⟨rfl, ⟨nd, rfl⟩⟩; (try first | exact ⟨rfl, _, World.drewN_drewN _ _ _⟩ | exact ⟨rfl, _, Eq.trans (World.drewN_drewN _ _ _) (congrArg (World.drewN _) (Nat.add_assoc _ _ _))⟩); obtain ⟨Ao40, co40, eo40⟩ := Kd.V_slice HO_8.out; subst eo40)))
                                go_meet
                                case rel => exact ⟨_, (((x8_26.length : Int) == 2)), (by first | rfl | (simp; done) | (simp [*]; done)), H', ⟨by have := HK1.out; have := HJ6.out; have := HJ16.out; have := HJ26.out; first | omega | exact Nat.le_refl _⟩, ⟨by (with_reducible repeat (first | apply Kd.V_alloc | apply Kd.V_drewN | apply Kd.V_drew)); exact HO_4.out⟩, ⟨by (with_reducible repeat (first | apply Kd.R_alloc | apply Kd.R_drewN | apply Kd.R_drew)); exact HO_5.out⟩, ⟨by (with_reducible repeat (first | apply Kd.V_alloc | apply Kd.V_drewN | apply Kd.V_drew)); exact HO_8.out⟩, ⟨by (with_reducible repeat (first | refine blk_drewN ?_ _ | refine blk_drew ?_ | refine blk_alloc ?_ _)); exact BK142.out⟩, ⟨by (with_reducible repeat (first | refine blk_drewN ?_ _ | refine blk_drew ?_ | refine blk_alloc ?_ _)); exact BK152.out⟩, ⟨by repeat (first | (with_reducible first | exact HB.out | apply below_alloc | apply pw_below_drewN | apply below_drew1 | refine below_set ?_ GE142.out | refine below_set ?_ GE152.out) | exact HB.out)⟩⟩
                              · replace c39 := Bool.eq_false_iff.mpr c39
                                subst c39
                                have H1 : (hurdleref02_Parse.j4 kj26 a0 l1 t143 x6_1 x8_26 false (rd t148 x6_1) 0 0 x153003_26) = some (r1, r2, r3, r4, r5) := by rw [if_neg (show ¬ (false = true) by decide)] at H; exact H
                                clear H
                                have H := H1
                                clear H1
                                have H' := Aside0.mk H
                                clear H
                                go_wp2_with (first | (go_at_call 33; (with_reducible refine (hurdleref02_branch.calls x6_1 false _ A38.out).mono ?_); rintro e w' ⟨rfl, ⟨nd, rfl⟩⟩; (try first | exact ⟨rfl, _, World.drewN_drewN _ _ _⟩ | exact ⟨rfl, _, Eq.trans (World.drewN_drewN _ _ _) (congrArg (World.drewN _) (Nat.add_assoc _ _ _))⟩)))
                                repeat (go_quiet (first | (go_at_call 33; (with_reducible refine (hurdleref02_branch.calls x6_1 false _ A38.out).mono ?_); rintro e w' ⟨rfl, ⟨nd, rfl⟩⟩; (try first | exact ⟨rfl, _, World.drewN_drewN _ _ _⟩ | exact ⟨rfl, _, Eq.trans (World.drewN_drewN _ _ _) (congrArg (World.drewN _) (Nat.add_assoc _ _ _))⟩))); try go_wp2_with (first | (go_at_call 33; (with_reducible refine (hurdleref02_branch.calls x6_1 false _ A38.out).mono ?_); rintro e w' ⟨rfl, ⟨nd, rfl⟩⟩; (try first | exact ⟨rfl, _, World.drewN_drewN _ _ _⟩ | exact ⟨rfl, _, Eq.trans (World.drewN_drewN _ _ _) (congrArg (World.drewN _) (Nat.add_assoc _ _ _))⟩))))
                                go_meet
                                case rel => exact ⟨_, (false), (by first | rfl | (simp; done) | (simp [*]; done)), H', ⟨by have := HK1.out; have := HJ6.out; have := HJ16.out; have := HJ26.out; first | omega | exact Nat.le_refl _⟩, ⟨by (with_reducible repeat (first | apply Kd.V_alloc | apply Kd.V_drewN | apply Kd.V_drew)); exact HO_4.out⟩, ⟨by (with_reducible repeat (first | apply Kd.R_alloc | apply Kd.R_drewN | apply Kd.R_drew)); exact HO_5.out⟩, ⟨by (with_reducible repeat (first | apply Kd.V_alloc | apply Kd.V_drewN | apply Kd.V_drew)); exact HO_8.out⟩, ⟨by (with_reducible repeat (first | refine blk_drewN ?_ _ | refine blk_drew ?_ | refine blk_alloc ?_ _)); exact BK142.out⟩, ⟨by (with_reducible repeat (first | refine blk_drewN ?_ _ | refine blk_drew ?_ | refine blk_alloc ?_ _)); exact BK152.out⟩, ⟨by repeat (first | (with_reducible first | exact HB.out | apply below_alloc | apply pw_below_drewN | apply below_drew1 | refine below_set ?_ GE142.out | refine below_set ?_ GE152.out) | exact HB.out)⟩⟩
                            case rest =>
                              clear HC37
                              try clear c1
                              try clear p1
                              try clear q1
                              try clear hx1
                              try clear qi1
                              try clear c2
                              try clear p2
                              try clear q2
                              try clear c3
                              try clear q3
                              try clear c6
                              try clear c6b0
                              try clear p6
                              try clear c9
                              try clear c9b0
                              try clear c10
                              try clear c10b0
                              try clear c10b1
                              try clear c11
                              try clear c11b0
                              try clear c11b1
                              try clear c12
                              try clear c14
                              try clear c14b0
                              try clear p14
                              try clear q14
                              try clear hx14
                              try clear qi14
                              try clear c15
                              try clear c15b0
                              try clear p15
                              try clear q15
                              try clear hx15
                              try clear qi15
                              try clear c16
                              try clear c16b0
                              try clear c16b1
                              try clear c21
                              try clear c24
                              try clear q24
                              try clear c25
                              try clear c26
                              try clear c28
                              try clear c29
                              try clear c29b0
                              try clear c29b1
                              try clear c31
                              try clear c31b0
                              try clear c31b1
                              try clear c33
                              try clear c36
                              try clear q36
                              try clear c39
                              try clear hcz22_0
                              try clear hcz22_1
                              try clear hcz22_2
                              try clear hcz22_3
                              try clear hcz34_0
                              try clear hcz34_1
                              try clear hcz34_2
                              try clear hcz34_3
                              try clear hfz22_0
                              try clear hfz22_1
                              try clear hfz22_2
                              try clear hfz22_3
                              try clear hfz34_0
                              try clear hfz34_1
                              try clear hfz34_2
                              try clear hfz34_3
                              try clear hx146_0
                              try clear hx147_0
                              try clear hx151_0
                              try clear hx159_0
                              try clear p1
                              try clear p14
                              try clear p146
                              try clear p147
                              try clear p15
                              try clear p151
                              try clear p159
                              try clear p2
                              try clear p6
                              try clear q1
                              try clear q14
                              try clear q146
                              try clear q147
                              try clear q15
                              try clear q151
                              try clear q159
                              try clear q2
                              try clear q24
                              try clear q3
                              try clear q36
                              obtain ⟨kq, x71_36, rfl, HA, HJ36, HO_4, HO_5, HO_8, BK142, BK152, HB⟩ := hcut
                              cases kq with
                              | zero => exact absurd HA.out (by simp [hurdleref02_Parse.j4])
                              | succ kj36 =>
                                have H := HA.out
                                clear HA
                                simp only [hurdleref02_Parse.j4] at H
                                have HC41 := Aside0.mk H
                                clear H
                                go_upto_if 71 with (fail)
                                repeat (go_quiet (fail); go_upto_if 71 with (fail))
                                go_cut [] (fun wc => ∃ (kq : Nat) (x153001_40 : Int) (x153002_40 : Int), Aside0 (hurdleref02_Parse.j5 kq a0 l1 t143 x6_1 (rd t148 x6_1) x153001_40 x153002_40 x153003_26 = some (r1, r2, r3, r4, r5)) ∧ Aside0 (kq ≤ kj36) ∧ Aside0 (Kd.V Kd.string 9 wc w.heap.size (fun k_ => (P1_ k_ ∨ w.heap.size ≤ k_) ∧ some k_ ≠ ((.slice Ao8 t143.length co8) : Value).ownBlock ∧ k_ ≠ gb142 ∧ k_ ≠ gb152) (.slice A1 l1.length c1) l1) ∧ Aside0 (Kd.R Kd.string 9 wc w.heap.size (fun k_ => (w.heap.size ≤ k_)) (.slice Ao8 t143.length co8) t143) ∧ Aside0 (wc.heap[gb142]? = some (.cells #[.int .i64 x143000_1, .int .i64 x143001_1, .int .i64 x143002_1, .int .u32 x143003_1] 48 (0, 0))) ∧ Aside0 (wc.heap[gb152]? = some (.cells #[.int .i64 (rd t148 x6_1), .int .i64 x153001_40, .int .i64 x153002_40, .int .u32 x153003_26] 48 (0, 0))) ∧ Aside0 (Below w.heap.size w wc))
                                case first =>
                                  have H := HC41.out
                                  clear HC41
                                  by_cases c42 : x71_36 = true
                                  · subst c42
                                    have H1 : (if 0 < (x8_26.length : Int) then ((hurdleref01_Parse.f kj36 (rdOf ByteArray.empty x8_26 0)).bind fun bt169 => (if 1 < (x8_26.length : Int) then ((hurdleref01_Parse.f kj36 (rdOf ByteArray.empty x8_26 1)).bind fun bt172 => (hurdleref02_Parse.j5 kj36 a0 l1 t143 x6_1 (rd t148 x6_1) (wrap64 (Int.tmod bt169.1 256)) (wrap64 (Int.tmod bt172.1 256)) x153003_26)) else (none))) else (none)) = some (r1, r2, r3, r4, r5) := by rw [if_pos rfl] at H; exact H
                                    clear H
                                    have H := H1
                                    clear H1
                                    by_cases c43 : 0 < (x8_26.length : Int)
                                    · rw [if_pos c43] at H
                                      have c43b0 : decide (0 < (x8_26.length : Int)) = true := decide_eq_true c43
                                      have c43b1 : decide (0 < x8_26.length) = true := decide_eq_true (by omega)
                                      clear c43
                                      (first | rw [c43b0] | (simp only [i64_w, i32_w]; rw [c43b0]) | skip)
                                      replace H := Option.bind_eq_some_iff.mp H
                                      obtain ⟨⟨t169, t170⟩, A440, H⟩ := H
                                      replace H : (if 1 < (x8_26.length : Int) then ((hurdleref01_Parse.f kj36 (rdOf ByteArray.empty x8_26 1)).bind fun bt172 => (hurdleref02_Parse.j5 kj36 a0 l1 t143 x6_1 (rd t148 x6_1) (wrap64 (Int.tmod t169 256)) (wrap64 (Int.tmod bt172.1 256)) x153003_26)) else (none)) = some (r1, r2, r3, r4, r5) := H
                                      have A44 := Aside0.mk A440
                                      clear A440
                                      by_cases c45 : 1 < (x8_26.length : Int)
                                      · rw [if_pos c45] at H
                                        have c45b0 : decide (1 < (x8_26.length : Int)) = true := decide_eq_true c45
                                        have c45b1 : decide (1 < x8_26.length) = true := decide_eq_true (by omega)
                                        clear c45
                                        replace H := Option.bind_eq_some_iff.mp H
                                        obtain ⟨⟨t172, t173⟩, A460, H⟩ := H
                                        replace H : (hurdleref02_Parse.j5 kj36 a0 l1 t143 x6_1 (rd t148 x6_1) (wrap64 (Int.tmod t169 256)) (wrap64 (Int.tmod t172 256)) x153003_26) = some (r1, r2, r3, r4, r5) := H
                                        have A46 := Aside0.mk A460
                                        clear A460
                                        have H' := Aside0.mk H
                                        clear H
                                        obtain ⟨Ao47, co47, eo47⟩ := Kd.V_slice HO_8.out
                                        subst eo47
                                        have p168 : 0 ≤ (0 : Int) := (by omega)
                                        have q168 : 0 < (x8_26.length : Int) := of_decide_eq_true (by first | (with_reducible assumption) | assumption)
                                        obtain ⟨ad168, e168, hx168_0⟩ := Kd.at_string (Kd.V_reads' HO_8.out).2.2 0 p168 q168
                                        cases e168
                                        have qi168 : (0 < x8_26.length) = True := eq_true (by omega)
                                        (try rw [show ((0 : Int)).toNat = 0 from rfl] at hx168_0)
                                        (try rw [Addr.add_zero'] at hx168_0)
                                        replace p168 := eq_true p168
                                        replace q168 := eq_true q168
                                        go_wp2_with (first | (go_at_call 39; (with_reducible refine (hurdleref01_Parse.calls kj36 (rdOf ByteArray.empty x8_26 0) t169 t170 _ A44.out).mono ?_); rintro e w48 ⟨rfl, hb⟩; have n0_ := Aside0.mk (Kd.V_below (by (with_reducible repeat (first | apply Kd.V_alloc | apply Kd.V_drewN | apply Kd.V_drew)); exact HO_4.out) hb); have n1_ := Aside0.mk (Kd.R_below (by (with_reducible repeat (first | apply Kd.R_alloc | apply Kd.R_drewN | apply Kd.R_drew)); exact HO_5.out) hb); have n2_ := Aside0.mk (Kd.V_below (by (with_reducible repeat (first | apply Kd.V_alloc | apply Kd.V_drewN | apply Kd.V_drew)); exact HO_8.out) hb); have n3_ := Aside0.mk (blk_below (g := gb142) (o := .cells #[.int .i64 x143000_1, .int .i64 x143001_1, .int .i64 x143002_1, .int .u32 x143003_1] 48 (0, 0)) (by (with_reducible repeat (first | refine blk_drewN ?_ _ | refine blk_drew ?_ | refine blk_alloc ?_ _)); exact BK142.out) hb); have n4_ := Aside0.mk (blk_below (g := gb152) (o := .cells #[.int .i64 (rd t148 x6_1), .int .i64 0, .int .i64 0, .int .u32 x153003_26] 48 (0, 0)) (by (with_reducible repeat (first | refine blk_drewN ?_ _ | refine blk_drew ?_ | refine blk_alloc ?_ _)); exact BK152.out) hb); have n5_ := Aside0.mk (below_step (by repeat (first | (with_reducible first | exact HB.out | apply below_alloc | apply pw_below_drewN | apply below_drew1 | refine below_set ?_ GE142.out | refine below_set ?_ GE152.out) | exact HB.out)) hb); clear HO_4; clear HO_5; clear HO_8; clear BK142; clear BK152; clear HB; have HO_4 := n0_; have HO_5 := n1_; have HO_8 := n2_; have BK142 := n3_; have BK152 := n4_; have HB := n5_; clear n0_ n1_ n2_ n3_ n4_ n5_; (try clear hb); (try clear hb2); (try clear hk); (try clear hi); have p171 : 0 ≤ (1 : Int) := (by omega); have q171 : 1 < (x8_26.length : Int) := of_decide_eq_true (by first | (with_reducible assumption) | assumption); obtain ⟨ad171, e171, hx171_0⟩ := Kd.at_string (Kd.V_reads' HO_8.out).2.2 1 p171 q171; obtain rfl : ad168 = ad171 := (by injection e171); (try simp only [show (1 : Int).toNat = 1 from rfl, Nat.reduceMul, Nat.reduceEqDiff, Go.Addr.add, ↓reduceIte] at hx171_0); have qi171 : (1 < x8_26.length) = True := eq_true (by omega); (try rw [show ((1 : Int)).toNat = 1 from rfl] at hx171_0); replace p171 := eq_true p171; replace q171 := eq_true q171) | (go_at_call 39; (with_reducible refine (hurdleref01_Parse.calls kj36 (rdOf ByteArray.empty x8_26 1) t172 t173 _ A46.out).mono ?_); rintro e w49 ⟨rfl, hb⟩; have n0_ := Aside0.mk (Kd.V_below (by (with_reducible repeat (first | apply Kd.V_alloc | apply Kd.V_drewN | apply Kd.V_drew)); exact HO_4.out) hb); have n1_ := Aside0.mk (Kd.R_below (by (with_reducible repeat (first | apply Kd.R_alloc | apply Kd.R_drewN | apply Kd.R_drew)); exact HO_5.out) hb); have n2_ := Aside0.mk (Kd.V_below (by (with_reducible repeat (first | apply Kd.V_alloc | apply Kd.V_drewN | apply Kd.V_drew)); exact HO_8.out) hb); have n3_ := Aside0.mk (blk_below (g := gb142) (o := .cells #[.int .i64 x143000_1, .int .i64 x143001_1, .int .i64 x143002_1, .int .u32 x143003_1] 48 (0, 0)) (by (with_reducible repeat (first | refine blk_drewN ?_ _ | refine blk_drew ?_ | refine blk_alloc ?_ _)); exact BK142.out) hb); have n4_ := Aside0.mk (blk_below (g := gb152) (o := .cells #[.int .i64 (rd t148 x6_1), .int .i64 0, .int .i64 0, .int .u32 x153003_26] 48 (0, 0)) (by (with_reducible repeat (first | refine blk_drewN ?_ _ | refine blk_drew ?_ | refine blk_alloc ?_ _)); exact BK152.out) hb); have n5_ := Aside0.mk (below_step (by repeat (first | (with_reducible first | exact HB.out | apply below_alloc | apply pw_below_drewN | apply below_drew1 | refine below_set ?_ GE142.out | refine below_set ?_ GE152.out) | exact HB.out)) hb); clear HO_4; clear HO_5; clear HO_8; clear BK142; clear BK152; clear HB; have HO_4 := n0_; have HO_5 := n1_; have HO_8 := n2_; have BK142 := n3_; have BK152 := n4_; have HB := n5_; clear n0_ n1_ n2_ n3_ n4_ n5_; (try clear hb); (try clear hb2); (try clear hk); (try clear hi); have hnb50 := NB152_142.out; have hnc50 := NB142_152.out; have hcz51_0 : w49.cell? ⟨gb152, 0, none⟩ = some (.int .i64 (rd t148 x6_1)) := (blk_cell BK152.out 0).trans rfl; have hcz51_1 : w49.cell? ⟨gb152, 1, none⟩ = some (.int .i64 0) := (blk_cell BK152.out 1).trans rfl; have hcz51_2 : w49.cell? ⟨gb152, 2, none⟩ = some (.int .i64 0) := (blk_cell BK152.out 2).trans rfl; have hcz51_3 : w49.cell? ⟨gb152, 3, none⟩ = some (.int .u32 x153003_26) := (blk_cell BK152.out 3).trans rfl; have hfz51_0 := blk_frozen BK152.out 0; have hfz51_1 := blk_frozen BK152.out 1; have hfz51_2 := blk_frozen BK152.out 2; have hfz51_3 := blk_frozen BK152.out 3))
                                        repeat (go_quiet (first | (go_at_call 39; (with_reducible refine (hurdleref01_Parse.calls kj36 (rdOf ByteArray.empty x8_26 0) t169 t170 _ A44.out).mono ?_); rintro e w48 ⟨rfl, hb⟩; have n0_ := Aside0.mk (Kd.V_below (by (with_reducible repeat (first | apply Kd.V_alloc | apply Kd.V_drewN | apply Kd.V_drew)); exact HO_4.out) hb); have n1_ := Aside0.mk (Kd.R_below (by (with_reducible repeat (first | apply Kd.R_alloc | apply Kd.R_drewN | apply Kd.R_drew)); exact HO_5.out) hb); have n2_ := Aside0.mk (Kd.V_below (by (with_reducible repeat (first | apply Kd.V_alloc | apply Kd.V_drewN | apply Kd.V_drew)); exact HO_8.out) hb); have n3_ := Aside0.mk (blk_below (g := gb142) (o := .cells #[.int .i64 x143000_1, .int .i64 x143001_1, .int .i64 x143002_1, .int .u32 x143003_1] 48 (0, 0)) (by (with_reducible repeat (first | refine blk_drewN ?_ _ | refine blk_drew ?_ | refine blk_alloc ?_ _)); exact BK142.out) hb); have n4_ := Aside0.mk (blk_below (g := gb152) (o := .cells #[.int .i64 (rd t148 x6_1), .int .i64 0, .int .i64 0, .int .u32 x153003_26] 48 (0, 0)) (by (with_reducible repeat (first | refine blk_drewN ?_ _ | refine blk_drew ?_ | refine blk_alloc ?_ _)); exact BK152.out) hb); have n5_ := Aside0.mk (below_step (by repeat (first | (with_reducible first | exact HB.out | apply below_alloc | apply pw_below_drewN | apply below_drew1 | refine below_set ?_ GE142.out | refine below_set ?_ GE152.out) | exact HB.out)) hb); clear HO_4; clear HO_5; clear HO_8; clear BK142; clear BK152; clear HB; have HO_4 := n0_; have HO_5 := n1_; have HO_8 := n2_; have BK142 := n3_; have BK152 := n4_; have HB := n5_; clear n0_ n1_ n2_ n3_ n4_ n5_; (try clear hb); (try clear hb2); (try clear hk); (try clear hi); have p171 : 0 ≤ (1 : Int) := (by omega); have q171 : 1 < (x8_26.length : Int) := of_decide_eq_true (by first | (with_reducible assumption) | assumption); obtain ⟨ad171, e171, hx171_0⟩ := Kd.at_string (Kd.V_reads' HO_8.out).2.2 1 p171 q171; obtain rfl : ad168 = ad171 := (by injection e171); (try simp only [show (1 : Int).toNat = 1 from rfl, Nat.reduceMul, Nat.reduceEqDiff, Go.Addr.add, ↓reduceIte] at hx171_0); have qi171 : (1 < x8_26.length) = True := eq_true (by omega); (try rw [show ((1 : Int)).toNat = 1 from rfl] at hx171_0); replace p171 := eq_true p171; replace q171 := eq_true q171) | (go_at_call 39; (with_reducible refine (hurdleref01_Parse.calls kj36 (rdOf ByteArray.empty x8_26 1) t172 t173 _ A46.out).mono ?_); rintro e w49 ⟨rfl, hb⟩; have n0_ := Aside0.mk (Kd.V_below (by (with_reducible repeat (first | apply Kd.V_alloc | apply Kd.V_drewN | apply Kd.V_drew)); exact HO_4.out) hb); have n1_ := Aside0.mk (Kd.R_below (by (with_reducible repeat (first | apply Kd.R_alloc | apply Kd.R_drewN | apply Kd.R_drew)); exact HO_5.out) hb); have n2_ := Aside0.mk (Kd.V_below (by (with_reducible repeat (first | apply Kd.V_alloc | apply Kd.V_drewN | apply Kd.V_drew)); exact HO_8.out) hb); have n3_ := Aside0.mk (blk_below (g := gb142) (o := .cells #[.int .i64 x143000_1, .int .i64 x143001_1, .int .i64 x143002_1, .int .u32 x143003_1] 48 (0, 0)) (by (with_reducible repeat (first | refine blk_drewN ?_ _ | refine blk_drew ?_ | refine blk_alloc ?_ _)); exact BK142.out) hb); have n4_ := Aside0.mk (blk_below (g := gb152) (o := .cells #[.int .i64 (rd t148 x6_1), .int .i64 0, .int .i64 0, .int .u32 x153003_26] 48 (0, 0)) (by (with_reducible repeat (first | refine blk_drewN ?_ _ | refine blk_drew ?_ | refine blk_alloc ?_ _)); exact BK152.out) hb); have n5_ := Aside0.mk (below_step (by repeat (first | (with_reducible first | exact HB.out | apply below_alloc | apply pw_below_drewN | apply below_drew1 | refine below_set ?_ GE142.out | refine below_set ?_ GE152.out) | exact HB.out)) hb); clear HO_4; clear HO_5; clear HO_8; clear BK142; clear BK152; clear HB; have HO_4 := n0_; have HO_5 := n1_; have HO_8 := n2_; have BK142 := n3_; have BK152 := n4_; have HB := n5_; clear n0_ n1_ n2_ n3_ n4_ n5_; (try clear hb); (try clear hb2); (try clear hk); (try clear hi); have hnb50 := NB152_142.out; have hnc50 := NB142_152.out; have hcz51_0 : w49.cell? ⟨gb152, 0, none⟩ = some (.int .i64 (rd t148 x6_1)) := (blk_cell BK152.out 0).trans rfl; have hcz51_1 : w49.cell? ⟨gb152, 1, none⟩ = some (.int .i64 0) := (blk_cell BK152.out 1).trans rfl; have hcz51_2 : w49.cell? ⟨gb152, 2, none⟩ = some (.int .i64 0) := (blk_cell BK152.out 2).trans rfl; have hcz51_3 : w49.cell? ⟨gb152, 3, none⟩ = some (.int .u32 x153003_26) := (blk_cell BK152.out 3).trans rfl; have hfz51_0 := blk_frozen BK152.out 0; have hfz51_1 := blk_frozen BK152.out 1; have hfz51_2 := blk_frozen BK152.out 2; have hfz51_3 := blk_frozen BK152.out 3)); try go_wp2_with (first | (go_at_call 39; (with_reducible refine (hurdleref01_Parse.calls kj36 (rdOf ByteArray.empty x8_26 0) t169 t170 _ A44.out).mono ?_); rintro e w48 ⟨rfl, hb⟩; have n0_ := Aside0.mk (Kd.V_below (by (with_reducible repeat (first | apply Kd.V_alloc | apply Kd.V_drewN | apply Kd.V_drew)); exact HO_4.out) hb); have n1_ := Aside0.mk (Kd.R_below (by (with_reducible repeat (first | apply Kd.R_alloc | apply Kd.R_drewN | apply Kd.R_drew)); exact HO_5.out) hb); have n2_ := Aside0.mk (Kd.V_below (by (with_reducible repeat (first | apply Kd.V_alloc | apply Kd.V_drewN | apply Kd.V_drew)); exact HO_8.out) hb); have n3_ := Aside0.mk (blk_below (g := gb142) (o := .cells #[.int .i64 x143000_1, .int .i64 x143001_1, .int .i64 x143002_1, .int .u32 x143003_1] 48 (0, 0)) (by (with_reducible repeat (first | refine blk_drewN ?_ _ | refine blk_drew ?_ | refine blk_alloc ?_ _)); exact BK142.out) hb); have n4_ := Aside0.mk (blk_below (g := gb152) (o := .cells #[.int .i64 (rd t148 x6_1), .int .i64 0, .int .i64 0, .int .u32 x153003_26] 48 (0, 0)) (by (with_reducible repeat (first | refine blk_drewN ?_ _ | refine blk_drew ?_ | refine blk_alloc ?_ _)); exact BK152.out) hb); have n5_ := Aside0.mk (below_step (by repeat (first | (with_reducible first | exact HB.out | apply below_alloc | apply pw_below_drewN | apply below_drew1 | refine below_set ?_ GE142.out | refine below_set ?_ GE152.out) | exact HB.out)) hb); clear HO_4; clear HO_5; clear HO_8; clear BK142; clear BK152; clear HB; have HO_4 := n0_; have HO_5 := n1_; have HO_8 := n2_; have BK142 := n3_; have BK152 := n4_; have HB := n5_; clear n0_ n1_ n2_ n3_ n4_ n5_; (try clear hb); (try clear hb2); (try clear hk); (try clear hi); have p171 : 0 ≤ (1 : Int) := (by omega); have q171 : 1 < (x8_26.length : Int) := of_decide_eq_true (by first | (with_reducible assumption) | assumption); obtain ⟨ad171, e171, hx171_0⟩ := Kd.at_string (Kd.V_reads' HO_8.out).2.2 1 p171 q171; obtain rfl : ad168 = ad171 := (by injection e171); (try simp only [show (1 : Int).toNat = 1 from rfl, Nat.reduceMul, Nat.reduceEqDiff, Go.Addr.add, ↓reduceIte] at hx171_0); have qi171 : (1 < x8_26.length) = True := eq_true (by omega); (try rw [show ((1 : Int)).toNat = 1 from rfl] at hx171_0); replace p171 := eq_true p171; replace q171 := eq_true q171) | (go_at_call 39; (with_reducible refine (hurdleref01_Parse.calls kj36 (rdOf ByteArray.empty x8_26 1) t172 t173 _ A46.out).mono ?_); rintro e w49 ⟨rfl, hb⟩; have n0_ := Aside0.mk (Kd.V_below (by (with_reducible repeat (first | apply Kd.V_alloc | apply Kd.V_drewN | apply Kd.V_drew)); exact HO_4.out) hb); have n1_ := Aside0.mk (Kd.R_below (by (with_reducible repeat (first | apply Kd.R_alloc | apply Kd.R_drewN | apply Kd.R_drew)); exact HO_5.out) hb); have n2_ := Aside0.mk (Kd.V_below (by (with_reducible repeat (first | apply Kd.V_alloc | apply Kd.V_drewN | apply Kd.V_drew)); exact HO_8.out) hb); have n3_ := Aside0.mk (blk_below (g := gb142) (o := .cells #[.int .i64 x143000_1, .int .i64 x143001_1, .int .i64 x143002_1, .int .u32 x143003_1] 48 (0, 0)) (by (with_reducible repeat (first | refine blk_drewN ?_ _ | refine blk_drew ?_ | refine blk_alloc ?_ _)); exact BK142.out) hb); have n4_ := Aside0.mk (blk_below (g := gb152) (o := .cells #[.int .i64 (rd t148 x6_1), .int .i64 0, .int .i64 0, .int .u32 x153003_26] 48 (0, 0)) (by (with_reducible repeat (first | refine blk_drewN ?_ _ | refine blk_drew ?_ | refine blk_alloc ?_ _)); exact BK152.out) hb); have n5_ := Aside0.mk (below_step (by repeat (first | (with_reducible first | exact HB.out | apply below_alloc | apply pw_below_drewN | apply below_drew1 | refine below_set ?_ GE142.out | refine below_set ?_ GE152.out) | exact HB.out)) hb); clear HO_4; clear HO_5; clear HO_8; clear BK142; clear BK152; clear HB; have HO_4 := n0_; have HO_5 := n1_; have HO_8 := n2_; have BK142 := n3_; have BK152 := n4_; have HB := n5_; clear n0_ n1_ n2_ n3_ n4_ n5_; (try clear hb); (try clear hb2); (try clear hk); (try clear hi); have hnb50 := NB152_142.out; have hnc50 := NB142_152.out; have hcz51_0 : w49.cell? ⟨gb152, 0, none⟩ = some (.int .i64 (rd t148 x6_1)) := (blk_cell BK152.out 0).trans rfl; have hcz51_1 : w49.cell? ⟨gb152, 1, none⟩ = some (.int .i64 0) := (blk_cell BK152.out 1).trans rfl; have hcz51_2 : w49.cell? ⟨gb152, 2, none⟩ = some (.int .i64 0) := (blk_cell BK152.out 2).trans rfl; have hcz51_3 : w49.cell? ⟨gb152, 3, none⟩ = some (.int .u32 x153003_26) := (blk_cell BK152.out 3).trans rfl; have hfz51_0 := blk_frozen BK152.out 0; have hfz51_1 := blk_frozen BK152.out 1; have hfz51_2 := blk_frozen BK152.out 2; have hfz51_3 := blk_frozen BK152.out 3)))
                                        go_meet
                                        case rel => exact ⟨_, (wrap64 (Int.tmod t169 256)), (wrap64 (Int.tmod t172 256)), H', ⟨by have := HK1.out; have := HJ6.out; have := HJ16.out; have := HJ26.out; have := HJ36.out; first | omega | exact Nat.le_refl _⟩, ⟨by (with_reducible repeat (first | apply Kd.V_alloc | apply Kd.V_drewN | apply Kd.V_drew)); exact Kd.V_mono (Kd.V_far (p := ⟨gb152, 2, none⟩) (Kd.V_far (p := ⟨gb152, 1, none⟩) (Kd.V_mono HO_4.out (fun k_ hk => (⟨hk, hk.2.2.2⟩ : _ ∧ k_ ≠ gb152))) (fun _ hk => hk.2) (.int .i64 (wrap64 (Int.tmod t169 256)))) (fun _ hk => hk.2) (.int .i64 (wrap64 (Int.tmod t172 256)))) (fun _ hk => ⟨hk.1.1, ⟨hk.1.2.1, ⟨hk.1.2.2.1, hk.1.2.2.2⟩⟩⟩)⟩, ⟨by (with_reducible repeat (first | apply Kd.R_alloc | apply Kd.R_drewN | apply Kd.R_drew)); exact Kd.R_mono (Kd.R_far (p := ⟨gb152, 2, none⟩) (Kd.R_far (p := ⟨gb152, 1, none⟩) (Kd.R_types HO_5.out BK152.out (by decide)) (fun _ hk => hk.2) (.int .i64 (wrap64 (Int.tmod t169 256)))) (fun _ hk => hk.2) (.int .i64 (wrap64 (Int.tmod t172 256)))) (fun _ hk => hk.1)⟩, ⟨by (with_reducible repeat (first | refine blk_drewN ?_ _ | refine blk_drew ?_ | refine blk_alloc ?_ _)); refine blk_far ?_ NB142_152.out _; (with_reducible repeat (first | refine blk_drewN ?_ _ | refine blk_drew ?_ | refine blk_alloc ?_ _)); refine blk_far ?_ NB142_152.out _; (with_reducible repeat (first | refine blk_drewN ?_ _ | refine blk_drew ?_ | refine blk_alloc ?_ _)); exact BK142.out⟩, ⟨by (with_reducible repeat (first | refine blk_drewN ?_ _ | refine blk_drew ?_ | refine blk_alloc ?_ _)); refine blk_put (cs := #[.int .i64 (rd t148 x6_1), .int .i64 (wrap64 (Int.tmod t169 256)), .int .i64 0, .int .u32 x153003_26]) ?_ 2 _ rfl; (with_reducible repeat (first | refine blk_drewN ?_ _ | refine blk_drew ?_ | refine blk_alloc ?_ _)); refine blk_put (cs := #[.int .i64 (rd t148 x6_1), .int .i64 0, .int .i64 0, .int .u32 x153003_26]) ?_ 1 _ rfl; (with_reducible repeat (first | refine blk_drewN ?_ _ | refine blk_drew ?_ | refine blk_alloc ?_ _)); exact BK152.out⟩, ⟨by repeat (first | (with_reducible first | exact HB.out | apply below_alloc | apply pw_below_drewN | apply below_drew1 | refine below_set ?_ GE142.out | refine below_set ?_ GE152.out) | exact HB.out)⟩⟩
                                      · rw [if_neg c45] at H
                                        exact absurd H (by simp)
                                    · rw [if_neg c43] at H
                                      exact absurd H (by simp)
                                  · replace c42 := Bool.eq_false_iff.mpr c42
                                    subst c42
                                    have H1 : (hurdleref02_Parse.j5 kj36 a0 l1 t143 x6_1 (rd t148 x6_1) 0 0 x153003_26) = some (r1, r2, r3, r4, r5) := by rw [if_neg (show ¬ (false = true) by decide)] at H; exact H
                                    clear H
                                    have H := H1
                                    clear H1
                                    have H' := Aside0.mk H
                                    clear H
                                    go_wp2
                                    repeat (go_quiet (fail); try go_wp2)
                                    go_meet
                                    case rel => exact ⟨_, (0), (0), H', ⟨by have := HK1.out; have := HJ6.out; have := HJ16.out; have := HJ26.out; have := HJ36.out; first | omega | exact Nat.le_refl _⟩, ⟨by (with_reducible repeat (first | apply Kd.V_alloc | apply Kd.V_drewN | apply Kd.V_drew)); exact HO_4.out⟩, ⟨by (with_reducible repeat (first | apply Kd.R_alloc | apply Kd.R_drewN | apply Kd.R_drew)); exact HO_5.out⟩, ⟨by (with_reducible repeat (first | refine blk_drewN ?_ _ | refine blk_drew ?_ | refine blk_alloc ?_ _)); exact BK142.out⟩, ⟨by (with_reducible repeat (first | refine blk_drewN ?_ _ | refine blk_drew ?_ | refine blk_alloc ?_ _)); exact BK152.out⟩, ⟨by repeat (first | (with_reducible first | exact HB.out | apply below_alloc | apply pw_below_drewN | apply below_drew1 | refine below_set ?_ GE142.out | refine below_set ?_ GE152.out) | exact HB.out)⟩⟩
                                case rest =>
                                  clear HC41
                                  try clear c1
                                  try clear p1
                                  try clear q1
                                  try clear hx1
                                  try clear qi1
                                  try clear c2
                                  try clear p2
                                  try clear q2
                                  try clear c3
                                  try clear q3
                                  try clear c4
                                  try clear c5
                                  try clear c6
                                  try clear c6b0
                                  try clear p6
                                  try clear c9
                                  try clear c9b0
                                  try clear c10
                                  try clear c10b0
                                  try clear c10b1
                                  try clear c11
                                  try clear c11b0
                                  try clear c11b1
                                  try clear c12
                                  try clear c14
                                  try clear c14b0
                                  try clear p14
                                  try clear q14
                                  try clear hx14
                                  try clear qi14
                                  try clear c15
                                  try clear c15b0
                                  try clear p15
                                  try clear q15
                                  try clear hx15
                                  try clear qi15
                                  try clear c16
                                  try clear c16b0
                                  try clear c16b1
                                  try clear p16
                                  try clear q16
                                  try clear hx16
                                  try clear qi16
                                  try clear p17
                                  try clear q17
                                  try clear hx17
                                  try clear qi17
                                  try clear c21
                                  try clear c24
                                  try clear q24
                                  try clear c25
                                  try clear c26
                                  try clear c28
                                  try clear c29
                                  try clear c29b0
                                  try clear c29b1
                                  try clear c31
                                  try clear c31b0
                                  try clear c31b1
                                  try clear c33
                                  try clear c36
                                  try clear q36
                                  try clear c39
                                  try clear c42
                                  try clear c43
                                  try clear c43b0
                                  try clear c43b1
                                  try clear c45
                                  try clear c45b0
                                  try clear c45b1
                                  try clear c50
                                  try clear hcz22_0
                                  try clear hcz22_1
                                  try clear hcz22_2
                                  try clear hcz22_3
                                  try clear hcz34_0
                                  try clear hcz34_1
                                  try clear hcz34_2
                                  try clear hcz34_3
                                  try clear hcz51_0
                                  try clear hcz51_1
                                  try clear hcz51_2
                                  try clear hcz51_3
                                  try clear hfz22_0
                                  try clear hfz22_1
                                  try clear hfz22_2
                                  try clear hfz22_3
                                  try clear hfz34_0
                                  try clear hfz34_1
                                  try clear hfz34_2
                                  try clear hfz34_3
                                  try clear hfz51_0
                                  try clear hfz51_1
                                  try clear hfz51_2
                                  try clear hfz51_3
                                  try clear hx146_0
                                  try clear hx147_0
                                  try clear hx151_0
                                  try clear hx159_0
                                  try clear hx168_0
                                  try clear hx171_0
                                  try clear p1
                                  try clear p14
                                  try clear p146
                                  try clear p147
                                  try clear p15
                                  try clear p151
                                  try clear p159
                                  try clear p168
                                  try clear p171
                                  try clear p2
                                  try clear p6
                                  try clear q1
                                  try clear q14
                                  try clear q146
                                  try clear q147
                                  try clear q15
                                  try clear q151
                                  try clear q159
                                  try clear q168
                                  try clear q171
                                  try clear q2
                                  try clear q24
                                  try clear q3
                                  try clear q36
                                  obtain ⟨kq, x153001_40, x153002_40, HA, HJ40, HO_4, HO_5, BK142, BK152, HB⟩ := hcut
                                  cases kq with
                                  | zero => exact absurd HA.out (by simp [hurdleref02_Parse.j5])
                                  | succ kj40 =>
                                    have H := HA.out
                                    clear HA
                                    simp only [hurdleref02_Parse.j5] at H
                                    replace H := Option.bind_eq_some_iff.mp H
                                    obtain ⟨t174, A520, H⟩ := H
                                    replace H : (if t174 = true then ((hurdleref02_Print.f kj40 (rd t148 x6_1) x153001_40 x153002_40 x153003_26).bind fun t175 => (if t175.toList = a0.toList then (some ((rd t148 x6_1), x153001_40, x153002_40, x153003_26, true)) else (hurdleref02_Parse.l0 kj40 a0 l1 t143 (wrap64 (x6_1 + 1))))) else (hurdleref02_Parse.l0 kj40 a0 l1 t143 (wrap64 (x6_1 + 1)))) = some (r1, r2, r3, r4, r5) := H
                                    have A52 := Aside0.mk A520
                                    clear A520
                                    by_cases c53 : t174 = true
                                    · subst c53
                                      have H1 : ((hurdleref02_Print.f kj40 (rd t148 x6_1) x153001_40 x153002_40 x153003_26).bind fun t175 => (if t175.toList = a0.toList then (some ((rd t148 x6_1), x153001_40, x153002_40, x153003_26, true)) else (hurdleref02_Parse.l0 kj40 a0 l1 t143 (wrap64 (x6_1 + 1))))) = some (r1, r2, r3, r4, r5) := by rw [if_pos rfl] at H; exact H
                                      clear H
                                      have H := H1
                                      clear H1
                                      replace H := Option.bind_eq_some_iff.mp H
                                      obtain ⟨t175, A540, H⟩ := H
                                      replace H : (if t175.toList = a0.toList then (some ((rd t148 x6_1), x153001_40, x153002_40, x153003_26, true)) else (hurdleref02_Parse.l0 kj40 a0 l1 t143 (wrap64 (x6_1 + 1)))) = some (r1, r2, r3, r4, r5) := H
                                      have A54 := Aside0.mk A540
                                      clear A540
                                      by_cases c55 : t175.toList = a0.toList
                                      · rw [if_pos c55] at H
                                        have c55b0 : (t175.toList == a0.toList) = true := beq_iff_eq.mpr c55
                                        have c55b1 : (t175.toList != a0.toList) = false := bne_eq_false_iff_eq.mpr c55
                                        clear c55
                                        simp only [Option.some.injEq, Prod.mk.injEq] at H
                                        obtain ⟨rfl, rfl, rfl, rfl, rfl⟩ := H
                                        have hnb56 := NB152_142.out
                                        have hnc56 := NB142_152.out
                                        have hcz57_0 : wc.cell? ⟨gb152, 0, none⟩ = some (.int .i64 (rd t148 x6_1)) := (blk_cell BK152.out 0).trans rfl
                                        have hcz57_1 : wc.cell? ⟨gb152, 1, none⟩ = some (.int .i64 x153001_40) := (blk_cell BK152.out 1).trans rfl
                                        have hcz57_2 : wc.cell? ⟨gb152, 2, none⟩ = some (.int .i64 x153002_40) := (blk_cell BK152.out 2).trans rfl
                                        have hcz57_3 : wc.cell? ⟨gb152, 3, none⟩ = some (.int .u32 x153003_26) := (blk_cell BK152.out 3).trans rfl
                                        have hfz57_0 := blk_frozen BK152.out 0
                                        have hfz57_1 := blk_frozen BK152.out 1
                                        have hfz57_2 := blk_frozen BK152.out 2
                                        have hfz57_3 := blk_frozen BK152.out 3
                                        go_wp2_with (first | (go_at_call 22; (with_reducible refine (hurdleref02_Right.calls kj40 (rd t148 x6_1) x153001_40 x153002_40 x153003_26 true _ A52.out).mono ?_); rintro e w58 ⟨rfl, hb⟩; have n0_ := Aside0.mk (Kd.V_below (by (with_reducible repeat (first | apply Kd.V_alloc | apply Kd.V_drewN | apply Kd.V_drew)); exact HO_4.out) hb); have n1_ := Aside0.mk (Kd.R_below (by (with_reducible repeat (first | apply Kd.R_alloc | apply Kd.R_drewN | apply Kd.R_drew)); exact HO_5.out) hb); have n2_ := Aside0.mk (blk_below (g := gb142) (o := .cells #[.int .i64 x143000_1, .int .i64 x143001_1, .int .i64 x143002_1, .int .u32 x143003_1] 48 (0, 0)) (by (with_reducible repeat (first | refine blk_drewN ?_ _ | refine blk_drew ?_ | refine blk_alloc ?_ _)); exact BK142.out) hb); have n3_ := Aside0.mk (blk_below (g := gb152) (o := .cells #[.int .i64 (rd t148 x6_1), .int .i64 x153001_40, .int .i64 x153002_40, .int .u32 x153003_26] 48 (0, 0)) (by (with_reducible repeat (first | refine blk_drewN ?_ _ | refine blk_drew ?_ | refine blk_alloc ?_ _)); exact BK152.out) hb); have n4_ := Aside0.mk (below_step (by repeat (first | (with_reducible first | exact HB.out | apply below_alloc | apply pw_below_drewN | apply below_drew1 | refine below_set ?_ GE142.out | refine below_set ?_ GE152.out) | exact HB.out)) hb); clear HO_4; clear HO_5; clear BK142; clear BK152; clear HB; have HO_4 := n0_; have HO_5 := n1_; have BK142 := n2_; have BK152 := n3_; have HB := n4_; clear n0_ n1_ n2_ n3_ n4_; (try clear hb); (try clear hb2); (try clear hk); (try clear hi); have hcz59_0 : w58.cell? ⟨gb152, 0, none⟩ = some (.int .i64 (rd t148 x6_1)) := (blk_cell BK152.out 0).trans rfl; have hcz59_1 : w58.cell? ⟨gb152, 1, none⟩ = some (.int .i64 x153001_40) := (blk_cell BK152.out 1).trans rfl; have hcz59_2 : w58.cell? ⟨gb152, 2, none⟩ = some (.int .i64 x153002_40) := (blk_cell BK152.out 2).trans rfl; have hcz59_3 : w58.cell? ⟨gb152, 3, none⟩ = some (.int .u32 x153003_26) := (blk_cell BK152.out 3).trans rfl; have hfz59_0 := blk_frozen BK152.out 0; have hfz59_1 := blk_frozen BK152.out 1; have hfz59_2 := blk_frozen BK152.out 2; have hfz59_3 := blk_frozen BK152.out 3) | (go_at_call 29; (with_reducible refine (hurdleref02_Print.calls kj40 (rd t148 x6_1) x153001_40 x153002_40 x153003_26 t175 _ A54.out).mono ?_); rintro e w60 ⟨rfl, hb⟩; have n0_ := Aside0.mk (Kd.V_below (by (with_reducible repeat (first | apply Kd.V_alloc | apply Kd.V_drewN | apply Kd.V_drew)); exact HO_4.out) hb); have n1_ := Aside0.mk (Kd.R_below (by (with_reducible repeat (first | apply Kd.R_alloc | apply Kd.R_drewN | apply Kd.R_drew)); exact HO_5.out) hb); have n2_ := Aside0.mk (blk_below (g := gb142) (o := .cells #[.int .i64 x143000_1, .int .i64 x143001_1, .int .i64 x143002_1, .int .u32 x143003_1] 48 (0, 0)) (by (with_reducible repeat (first | refine blk_drewN ?_ _ | refine blk_drew ?_ | refine blk_alloc ?_ _)); exact BK142.out) hb); have n3_ := Aside0.mk (blk_below (g := gb152) (o := .cells #[.int .i64 (rd t148 x6_1), .int .i64 x153001_40, .int .i64 x153002_40, .int .u32 x153003_26] 48 (0, 0)) (by (with_reducible repeat (first | refine blk_drewN ?_ _ | refine blk_drew ?_ | refine blk_alloc ?_ _)); exact BK152.out) hb); have n4_ := Aside0.mk (below_step (by repeat (first | (with_reducible first | exact HB.out | apply below_alloc | apply pw_below_drewN | apply below_drew1 | refine below_set ?_ GE142.out | refine below_set ?_ GE152.out) | exact HB.out)) hb); clear HO_4; clear HO_5; clear BK142; clear BK152; clear HB; have HO_4 := n0_; have HO_5 := n1_; have BK142 := n2_; have BK152 := n3_; have HB := n4_; clear n0_ n1_ n2_ n3_ n4_; (try clear hb); (try clear hb2); (try clear hk); (try clear hi); have hcz61_0 : w60.cell? ⟨gb152, 0, none⟩ = some (.int .i64 (rd t148 x6_1)) := (blk_cell BK152.out 0).trans rfl; have hcz61_1 : w60.cell? ⟨gb152, 1, none⟩ = some (.int .i64 x153001_40) := (blk_cell BK152.out 1).trans rfl; have hcz61_2 : w60.cell? ⟨gb152, 2, none⟩ = some (.int .i64 x153002_40) := (blk_cell BK152.out 2).trans rfl; have hcz61_3 : w60.cell? ⟨gb152, 3, none⟩ = some (.int .u32 x153003_26) := (blk_cell BK152.out 3).trans rfl; have hfz61_0 := blk_frozen BK152.out 0; have hfz61_1 := blk_frozen BK152.out 1; have hfz61_2 := blk_frozen BK152.out 2; have hfz61_3 := blk_frozen BK152.out 3; have hcz62_0 : w60.cell? ⟨gb142, 0, none⟩ = some (.int .i64 x143000_1) := (blk_cell BK142.out 0).trans rfl; have hcz62_1 : w60.cell? ⟨gb142, 1, none⟩ = some (.int .i64 x143001_1) := (blk_cell BK142.out 1).trans rfl; have hcz62_2 : w60.cell? ⟨gb142, 2, none⟩ = some (.int .i64 x143002_1) := (blk_cell BK142.out 2).trans rfl; have hcz62_3 : w60.cell? ⟨gb142, 3, none⟩ = some (.int .u32 x143003_1) := (blk_cell BK142.out 3).trans rfl; have hfz62_0 := blk_frozen BK142.out 0; have hfz62_1 := blk_frozen BK142.out 1; have hfz62_2 := blk_frozen BK142.out 2; have hfz62_3 := blk_frozen BK142.out 3))
                                        repeat (go_quiet (first | (go_at_call 22; (with_reducible refine (hurdleref02_Right.calls kj40 (rd t148 x6_1) x153001_40 x153002_40 x153003_26 true _ A52.out).mono ?_); rintro e w58 ⟨rfl, hb⟩; have n0_ := Aside0.mk (Kd.V_below (by (with_reducible repeat (first | apply Kd.V_alloc | apply Kd.V_drewN | apply Kd.V_drew)); exact HO_4.out) hb); have n1_ := Aside0.mk (Kd.R_below (by (with_reducible repeat (first | apply Kd.R_alloc | apply Kd.R_drewN | apply Kd.R_drew)); exact HO_5.out) hb); have n2_ := Aside0.mk (blk_below (g := gb142) (o := .cells #[.int .i64 x143000_1, .int .i64 x143001_1, .int .i64 x143002_1, .int .u32 x143003_1] 48 (0, 0)) (by (with_reducible repeat (first | refine blk_drewN ?_ _ | refine blk_drew ?_ | refine blk_alloc ?_ _)); exact BK142.out) hb); have n3_ := Aside0.mk (blk_below (g := gb152) (o := .cells #[.int .i64 (rd t148 x6_1), .int .i64 x153001_40, .int .i64 x153002_40, .int .u32 x153003_26] 48 (0, 0)) (by (with_reducible repeat (first | refine blk_drewN ?_ _ | refine blk_drew ?_ | refine blk_alloc ?_ _)); exact BK152.out) hb); have n4_ := Aside0.mk (below_step (by repeat (first | (with_reducible first | exact HB.out | apply below_alloc | apply pw_below_drewN | apply below_drew1 | refine below_set ?_ GE142.out | refine below_set ?_ GE152.out) | exact HB.out)) hb); clear HO_4; clear HO_5; clear BK142; clear BK152; clear HB; have HO_4 := n0_; have HO_5 := n1_; have BK142 := n2_; have BK152 := n3_; have HB := n4_; clear n0_ n1_ n2_ n3_ n4_; (try clear hb); (try clear hb2); (try clear hk); (try clear hi); have hcz59_0 : w58.cell? ⟨gb152, 0, none⟩ = some (.int .i64 (rd t148 x6_1)) := (blk_cell BK152.out 0).trans rfl; have hcz59_1 : w58.cell? ⟨gb152, 1, none⟩ = some (.int .i64 x153001_40) := (blk_cell BK152.out 1).trans rfl; have hcz59_2 : w58.cell? ⟨gb152, 2, none⟩ = some (.int .i64 x153002_40) := (blk_cell BK152.out 2).trans rfl; have hcz59_3 : w58.cell? ⟨gb152, 3, none⟩ = some (.int .u32 x153003_26) := (blk_cell BK152.out 3).trans rfl; have hfz59_0 := blk_frozen BK152.out 0; have hfz59_1 := blk_frozen BK152.out 1; have hfz59_2 := blk_frozen BK152.out 2; have hfz59_3 := blk_frozen BK152.out 3) | (go_at_call 29; (with_reducible refine (hurdleref02_Print.calls kj40 (rd t148 x6_1) x153001_40 x153002_40 x153003_26 t175 _ A54.out).mono ?_); rintro e w60 ⟨rfl, hb⟩; have n0_ := Aside0.mk (Kd.V_below (by (with_reducible repeat (first | apply Kd.V_alloc | apply Kd.V_drewN | apply Kd.V_drew)); exact HO_4.out) hb); have n1_ := Aside0.mk (Kd.R_below (by (with_reducible repeat (first | apply Kd.R_alloc | apply Kd.R_drewN | apply Kd.R_drew)); exact HO_5.out) hb); have n2_ := Aside0.mk (blk_below (g := gb142) (o := .cells #[.int .i64 x143000_1, .int .i64 x143001_1, .int .i64 x143002_1, .int .u32 x143003_1] 48 (0, 0)) (by (with_reducible repeat (first | refine blk_drewN ?_ _ | refine blk_drew ?_ | refine blk_alloc ?_ _)); exact BK142.out) hb); have n3_ := Aside0.mk (blk_below (g := gb152) (o := .cells #[.int .i64 (rd t148 x6_1), .int .i64 x153001_40, .int .i64 x153002_40, .int .u32 x153003_26] 48 (0, 0)) (by (with_reducible repeat (first | refine blk_drewN ?_ _ | refine blk_drew ?_ | refine blk_alloc ?_ _)); exact BK152.out) hb); have n4_ := Aside0.mk (below_step (by repeat (first | (with_reducible first | exact HB.out | apply below_alloc | apply pw_below_drewN | apply below_drew1 | refine below_set ?_ GE142.out | refine below_set ?_ GE152.out) | exact HB.out)) hb); clear HO_4; clear HO_5; clear BK142; clear BK152; clear HB; have HO_4 := n0_; have HO_5 := n1_; have BK142 := n2_; have BK152 := n3_; have HB := n4_; clear n0_ n1_ n2_ n3_ n4_; (try clear hb); (try clear hb2); (try clear hk); (try clear hi); have hcz61_0 : w60.cell? ⟨gb152, 0, none⟩ = some (.int .i64 (rd t148 x6_1)) := (blk_cell BK152.out 0).trans rfl; have hcz61_1 : w60.cell? ⟨gb152, 1, none⟩ = some (.int .i64 x153001_40) := (blk_cell BK152.out 1).trans rfl; have hcz61_2 : w60.cell? ⟨gb152, 2, none⟩ = some (.int .i64 x153002_40) := (blk_cell BK152.out 2).trans rfl; have hcz61_3 : w60.cell? ⟨gb152, 3, none⟩ = some (.int .u32 x153003_26) := (blk_cell BK152.out 3).trans rfl; have hfz61_0 := blk_frozen BK152.out 0; have hfz61_1 := blk_frozen BK152.out 1; have hfz61_2 := blk_frozen BK152.out 2; have hfz61_3 := blk_frozen BK152.out 3; have hcz62_0 : w60.cell? ⟨gb142, 0, none⟩ = some (.int .i64 x143000_1) := (blk_cell BK142.out 0).trans rfl; have hcz62_1 : w60.cell? ⟨gb142, 1, none⟩ = some (.int .i64 x143001_1) := (blk_cell BK142.out 1).trans rfl; have hcz62_2 : w60.cell? ⟨gb142, 2, none⟩ = some (.int .i64 x143002_1) := (blk_cell BK142.out 2).trans rfl; have hcz62_3 : w60.cell? ⟨gb142, 3, none⟩ = some (.int .u32 x143003_1) := (blk_cell BK142.out 3).trans rfl; have hfz62_0 := blk_frozen BK142.out 0; have hfz62_1 := blk_frozen BK142.out 1; have hfz62_2 := blk_frozen BK142.out 2; have hfz62_3 := blk_frozen BK142.out 3)); try go_wp2_with (first | (go_at_call 22; (with_reducible refine (hurdleref02_Right.calls kj40 (rd t148 x6_1) x153001_40 x153002_40 x153003_26 true _ A52.out).mono ?_); rintro e w58 ⟨rfl, hb⟩; have n0_ := Aside0.mk (Kd.V_below (by (with_reducible repeat (first | apply Kd.V_alloc | apply Kd.V_drewN | apply Kd.V_drew)); exact HO_4.out) hb); have n1_ := Aside0.mk (Kd.R_below (by (with_reducible repeat (first | apply Kd.R_alloc | apply Kd.R_drewN | apply Kd.R_drew)); exact HO_5.out) hb); have n2_ := Aside0.mk (blk_below (g := gb142) (o := .cells #[.int .i64 x143000_1, .int .i64 x143001_1, .int .i64 x143002_1, .int .u32 x143003_1] 48 (0, 0)) (by (with_reducible repeat (first | refine blk_drewN ?_ _ | refine blk_drew ?_ | refine blk_alloc ?_ _)); exact BK142.out) hb); have n3_ := Aside0.mk (blk_below (g := gb152) (o := .cells #[.int .i64 (rd t148 x6_1), .int .i64 x153001_40, .int .i64 x153002_40, .int .u32 x153003_26] 48 (0, 0)) (by (with_reducible repeat (first | refine blk_drewN ?_ _ | refine blk_drew ?_ | refine blk_alloc ?_ _)); exact BK152.out) hb); have n4_ := Aside0.mk (below_step (by repeat (first | (with_reducible first | exact HB.out | apply below_alloc | apply pw_below_drewN | apply below_drew1 | refine below_set ?_ GE142.out | refine below_set ?_ GE152.out) | exact HB.out)) hb); clear HO_4; clear HO_5; clear BK142; clear BK152; clear HB; have HO_4 := n0_; have HO_5 := n1_; have BK142 := n2_; have BK152 := n3_; have HB := n4_; clear n0_ n1_ n2_ n3_ n4_; (try clear hb); (try clear hb2); (try clear hk); (try clear hi); have hcz59_0 : w58.cell? ⟨gb152, 0, none⟩ = some (.int .i64 (rd t148 x6_1)) := (blk_cell BK152.out 0).trans rfl; have hcz59_1 : w58.cell? ⟨gb152, 1, none⟩ = some (.int .i64 x153001_40) := (blk_cell BK152.out 1).trans rfl; have hcz59_2 : w58.cell? ⟨gb152, 2, none⟩ = some (.int .i64 x153002_40) := (blk_cell BK152.out 2).trans rfl; have hcz59_3 : w58.cell? ⟨gb152, 3, none⟩ = some (.int .u32 x153003_26) := (blk_cell BK152.out 3).trans rfl; have hfz59_0 := blk_frozen BK152.out 0; have hfz59_1 := blk_frozen BK152.out 1; have hfz59_2 := blk_frozen BK152.out 2; have hfz59_3 := blk_frozen BK152.out 3) | (go_at_call 29; (with_reducible refine (hurdleref02_Print.calls kj40 (rd t148 x6_1) x153001_40 x153002_40 x153003_26 t175 _ A54.out).mono ?_); rintro e w60 ⟨rfl, hb⟩; have n0_ := Aside0.mk (Kd.V_below (by (with_reducible repeat (first | apply Kd.V_alloc | apply Kd.V_drewN | apply Kd.V_drew)); exact HO_4.out) hb); have n1_ := Aside0.mk (Kd.R_below (by (with_reducible repeat (first | apply Kd.R_alloc | apply Kd.R_drewN | apply Kd.R_drew)); exact HO_5.out) hb); have n2_ := Aside0.mk (blk_below (g := gb142) (o := .cells #[.int .i64 x143000_1, .int .i64 x143001_1, .int .i64 x143002_1, .int .u32 x143003_1] 48 (0, 0)) (by (with_reducible repeat (first | refine blk_drewN ?_ _ | refine blk_drew ?_ | refine blk_alloc ?_ _)); exact BK142.out) hb); have n3_ := Aside0.mk (blk_below (g := gb152) (o := .cells #[.int .i64 (rd t148 x6_1), .int .i64 x153001_40, .int .i64 x153002_40, .int .u32 x153003_26] 48 (0, 0)) (by (with_reducible repeat (first | refine blk_drewN ?_ _ | refine blk_drew ?_ | refine blk_alloc ?_ _)); exact BK152.out) hb); have n4_ := Aside0.mk (below_step (by repeat (first | (with_reducible first | exact HB.out | apply below_alloc | apply pw_below_drewN | apply below_drew1 | refine below_set ?_ GE142.out | refine below_set ?_ GE152.out) | exact HB.out)) hb); clear HO_4; clear HO_5; clear BK142; clear BK152; clear HB; have HO_4 := n0_; have HO_5 := n1_; have BK142 := n2_; have BK152 := n3_; have HB := n4_; clear n0_ n1_ n2_ n3_ n4_; (try clear hb); (try clear hb2); (try clear hk); (try clear hi); have hcz61_0 : w60.cell? ⟨gb152, 0, none⟩ = some (.int .i64 (rd t148 x6_1)) := (blk_cell BK152.out 0).trans rfl; have hcz61_1 : w60.cell? ⟨gb152, 1, none⟩ = some (.int .i64 x153001_40) := (blk_cell BK152.out 1).trans rfl; have hcz61_2 : w60.cell? ⟨gb152, 2, none⟩ = some (.int .i64 x153002_40) := (blk_cell BK152.out 2).trans rfl; have hcz61_3 : w60.cell? ⟨gb152, 3, none⟩ = some (.int .u32 x153003_26) := (blk_cell BK152.out 3).trans rfl; have hfz61_0 := blk_frozen BK152.out 0; have hfz61_1 := blk_frozen BK152.out 1; have hfz61_2 := blk_frozen BK152.out 2; have hfz61_3 := blk_frozen BK152.out 3; have hcz62_0 : w60.cell? ⟨gb142, 0, none⟩ = some (.int .i64 x143000_1) := (blk_cell BK142.out 0).trans rfl; have hcz62_1 : w60.cell? ⟨gb142, 1, none⟩ = some (.int .i64 x143001_1) := (blk_cell BK142.out 1).trans rfl; have hcz62_2 : w60.cell? ⟨gb142, 2, none⟩ = some (.int .i64 x143002_1) := (blk_cell BK142.out 2).trans rfl; have hcz62_3 : w60.cell? ⟨gb142, 3, none⟩ = some (.int .u32 x143003_1) := (blk_cell BK142.out 3).trans rfl; have hfz62_0 := blk_frozen BK142.out 0; have hfz62_1 := blk_frozen BK142.out 1; have hfz62_2 := blk_frozen BK142.out 2; have hfz62_3 := blk_frozen BK142.out 3)))
                                        refine bodyPost_ret (results_ct rfl _ _ gb142 48 #[.int .i64 (rd t148 x6_1), .int .i64 x153001_40, .int .i64 x153002_40, .int .u32 x153003_26] (0, 0) _ rfl (by (with_reducible repeat (first | refine blk_drewN ?_ _ | refine blk_drew ?_ | refine blk_alloc ?_ _)); refine blk_put (cs := #[.int .i64 (rd t148 x6_1), .int .i64 x153001_40, .int .i64 x153002_40, .int .u32 x143003_1]) ?_ 3 _ rfl; (with_reducible repeat (first | refine blk_drewN ?_ _ | refine blk_drew ?_ | refine blk_alloc ?_ _)); refine blk_put (cs := #[.int .i64 (rd t148 x6_1), .int .i64 x153001_40, .int .i64 x143002_1, .int .u32 x143003_1]) ?_ 2 _ rfl; (with_reducible repeat (first | refine blk_drewN ?_ _ | refine blk_drew ?_ | refine blk_alloc ?_ _)); refine blk_put (cs := #[.int .i64 (rd t148 x6_1), .int .i64 x143001_1, .int .i64 x143002_1, .int .u32 x143003_1]) ?_ 1 _ rfl; (with_reducible repeat (first | refine blk_drewN ?_ _ | refine blk_drew ?_ | refine blk_alloc ?_ _)); refine blk_put (cs := #[.int .i64 x143000_1, .int .i64 x143001_1, .int .i64 x143002_1, .int .u32 x143003_1]) ?_ 0 _ rfl; (with_reducible repeat (first | refine blk_drewN ?_ _ | refine blk_drew ?_ | refine blk_alloc ?_ _)); exact BK142.out) Tryd.underlying48 rfl (by kernel_rfl)) rfl ?_
                                        exact ⟨by first | rfl | (simp [errW_none, errW_some] <;> rfl) | (simp [*, errW_none, errW_some] <;> rfl), by repeat (first | (with_reducible first | exact HB.out | apply below_alloc | apply pw_below_drewN | apply below_drew1 | refine below_set ?_ GE142.out | refine below_set ?_ GE152.out) | exact HB.out)⟩
                                      · rw [if_neg c55] at H
                                        have c55b0 : (t175.toList == a0.toList) = false := beq_eq_false_iff_ne.mpr c55
                                        have c55b1 : (t175.toList != a0.toList) = true := bne_iff_ne.mpr c55
                                        have H' := Aside0.mk H
                                        clear H
                                        have hnb63 := NB152_142.out
                                        have hnc63 := NB142_152.out
                                        have hcz64_0 : wc.cell? ⟨gb152, 0, none⟩ = some (.int .i64 (rd t148 x6_1)) := (blk_cell BK152.out 0).trans rfl
                                        have hcz64_1 : wc.cell? ⟨gb152, 1, none⟩ = some (.int .i64 x153001_40) := (blk_cell BK152.out 1).trans rfl
                                        have hcz64_2 : wc.cell? ⟨gb152, 2, none⟩ = some (.int .i64 x153002_40) := (blk_cell BK152.out 2).trans rfl
                                        have hcz64_3 : wc.cell? ⟨gb152, 3, none⟩ = some (.int .u32 x153003_26) := (blk_cell BK152.out 3).trans rfl
                                        have hfz64_0 := blk_frozen BK152.out 0
                                        have hfz64_1 := blk_frozen BK152.out 1
                                        have hfz64_2 := blk_frozen BK152.out 2
                                        have hfz64_3 := blk_frozen BK152.out 3
                                        go_wp2_with (first | (go_at_call 22; (with_reducible refine (hurdleref02_Right.calls kj40 (rd t148 x6_1) x153001_40 x153002_40 x153003_26 true _ A52.out).mono ?_); rintro e w65 ⟨rfl, hb⟩; have n0_ := Aside0.mk (Kd.V_below (by (with_reducible repeat (first | apply Kd.V_alloc | apply Kd.V_drewN | apply Kd.V_drew)); exact HO_4.out) hb); have n1_ := Aside0.mk (Kd.R_below (by (with_reducible repeat (first | apply Kd.R_alloc | apply Kd.R_drewN | apply Kd.R_drew)); exact HO_5.out) hb); have n2_ := Aside0.mk (blk_below (g := gb142) (o := .cells #[.int .i64 x143000_1, .int .i64 x143001_1, .int .i64 x143002_1, .int .u32 x143003_1] 48 (0, 0)) (by (with_reducible repeat (first | refine blk_drewN ?_ _ | refine blk_drew ?_ | refine blk_alloc ?_ _)); exact BK142.out) hb); have n3_ := Aside0.mk (blk_below (g := gb152) (o := .cells #[.int .i64 (rd t148 x6_1), .int .i64 x153001_40, .int .i64 x153002_40, .int .u32 x153003_26] 48 (0, 0)) (by (with_reducible repeat (first | refine blk_drewN ?_ _ | refine blk_drew ?_ | refine blk_alloc ?_ _)); exact BK152.out) hb); have n4_ := Aside0.mk (below_step (by repeat (first | (with_reducible first | exact HB.out | apply below_alloc | apply pw_below_drewN | apply below_drew1 | refine below_set ?_ GE142.out | refine below_set ?_ GE152.out) | exact HB.out)) hb); clear HO_4; clear HO_5; clear BK142; clear BK152; clear HB; have HO_4 := n0_; have HO_5 := n1_; have BK142 := n2_; have BK152 := n3_; have HB := n4_; clear n0_ n1_ n2_ n3_ n4_; (try clear hb); (try clear hb2); (try clear hk); (try clear hi); have hcz66_0 : w65.cell? ⟨gb152, 0, none⟩ = some (.int .i64 (rd t148 x6_1)) := (blk_cell BK152.out 0).trans rfl; have hcz66_1 : w65.cell? ⟨gb152, 1, none⟩ = some (.int .i64 x153001_40) := (blk_cell BK152.out 1).trans rfl; have hcz66_2 : w65.cell? ⟨gb152, 2, none⟩ = some (.int .i64 x153002_40) := (blk_cell BK152.out 2).trans rfl; have hcz66_3 : w65.cell? ⟨gb152, 3, none⟩ = some (.int .u32 x153003_26) := (blk_cell BK152.out 3).trans rfl; have hfz66_0 := blk_frozen BK152.out 0; have hfz66_1 := blk_frozen BK152.out 1; have hfz66_2 := blk_frozen BK152.out 2; have hfz66_3 := blk_frozen BK152.out 3) | (go_at_call 29; (with_reducible refine (hurdleref02_Print.calls kj40 (rd t148 x6_1) x153001_40 x153002_40 x153003_26 t175 _ A54.out).mono ?_); rintro e w67 ⟨rfl, hb⟩; have n0_ := Aside0.mk (Kd.V_below (by (with_reducible repeat (first | apply Kd.V_alloc | apply Kd.V_drewN | apply Kd.V_drew)); exact HO_4.out) hb); have n1_ := Aside0.mk (Kd.R_below (by (with_reducible repeat (first | apply Kd.R_alloc | apply Kd.R_drewN | apply Kd.R_drew)); exact HO_5.out) hb); have n2_ := Aside0.mk (blk_below (g := gb142) (o := .cells #[.int .i64 x143000_1, .int .i64 x143001_1, .int .i64 x143002_1, .int .u32 x143003_1] 48 (0, 0)) (by (with_reducible repeat (first | refine blk_drewN ?_ _ | refine blk_drew ?_ | refine blk_alloc ?_ _)); exact BK142.out) hb); have n3_ := Aside0.mk (blk_below (g := gb152) (o := .cells #[.int .i64 (rd t148 x6_1), .int .i64 x153001_40, .int .i64 x153002_40, .int .u32 x153003_26] 48 (0, 0)) (by (with_reducible repeat (first | refine blk_drewN ?_ _ | refine blk_drew ?_ | refine blk_alloc ?_ _)); exact BK152.out) hb); have n4_ := Aside0.mk (below_step (by repeat (first | (with_reducible first | exact HB.out | apply below_alloc | apply pw_below_drewN | apply below_drew1 | refine below_set ?_ GE142.out | refine below_set ?_ GE152.out) | exact HB.out)) hb); clear HO_4; clear HO_5; clear BK142; clear BK152; clear HB; have HO_4 := n0_; have HO_5 := n1_; have BK142 := n2_; have BK152 := n3_; have HB := n4_; clear n0_ n1_ n2_ n3_ n4_; (try clear hb); (try clear hb2); (try clear hk); (try clear hi)))
                                        repeat (go_quiet (first | (go_at_call 22; (with_reducible refine (hurdleref02_Right.calls kj40 (rd t148 x6_1) x153001_40 x153002_40 x153003_26 true _ A52.out).mono ?_); rintro e w65 ⟨rfl, hb⟩; have n0_ := Aside0.mk (Kd.V_below (by (with_reducible repeat (first | apply Kd.V_alloc | apply Kd.V_drewN | apply Kd.V_drew)); exact HO_4.out) hb); have n1_ := Aside0.mk (Kd.R_below (by (with_reducible repeat (first | apply Kd.R_alloc | apply Kd.R_drewN | apply Kd.R_drew)); exact HO_5.out) hb); have n2_ := Aside0.mk (blk_below (g := gb142) (o := .cells #[.int .i64 x143000_1, .int .i64 x143001_1, .int .i64 x143002_1, .int .u32 x143003_1] 48 (0, 0)) (by (with_reducible repeat (first | refine blk_drewN ?_ _ | refine blk_drew ?_ | refine blk_alloc ?_ _)); exact BK142.out) hb); have n3_ := Aside0.mk (blk_below (g := gb152) (o := .cells #[.int .i64 (rd t148 x6_1), .int .i64 x153001_40, .int .i64 x153002_40, .int .u32 x153003_26] 48 (0, 0)) (by (with_reducible repeat (first | refine blk_drewN ?_ _ | refine blk_drew ?_ | refine blk_alloc ?_ _)); exact BK152.out) hb); have n4_ := Aside0.mk (below_step (by repeat (first | (with_reducible first | exact HB.out | apply below_alloc | apply pw_below_drewN | apply below_drew1 | refine below_set ?_ GE142.out | refine below_set ?_ GE152.out) | exact HB.out)) hb); clear HO_4; clear HO_5; clear BK142; clear BK152; clear HB; have HO_4 := n0_; have HO_5 := n1_; have BK142 := n2_; have BK152 := n3_; have HB := n4_; clear n0_ n1_ n2_ n3_ n4_; (try clear hb); (try clear hb2); (try clear hk); (try clear hi); have hcz66_0 : w65.cell? ⟨gb152, 0, none⟩ = some (.int .i64 (rd t148 x6_1)) := (blk_cell BK152.out 0).trans rfl; have hcz66_1 : w65.cell? ⟨gb152, 1, none⟩ = some (.int .i64 x153001_40) := (blk_cell BK152.out 1).trans rfl; have hcz66_2 : w65.cell? ⟨gb152, 2, none⟩ = some (.int .i64 x153002_40) := (blk_cell BK152.out 2).trans rfl; have hcz66_3 : w65.cell? ⟨gb152, 3, none⟩ = some (.int .u32 x153003_26) := (blk_cell BK152.out 3).trans rfl; have hfz66_0 := blk_frozen BK152.out 0; have hfz66_1 := blk_frozen BK152.out 1; have hfz66_2 := blk_frozen BK152.out 2; have hfz66_3 := blk_frozen BK152.out 3) | (go_at_call 29; (with_reducible refine (hurdleref02_Print.calls kj40 (rd t148 x6_1) x153001_40 x153002_40 x153003_26 t175 _ A54.out).mono ?_); rintro e w67 ⟨rfl, hb⟩; have n0_ := Aside0.mk (Kd.V_below (by (with_reducible repeat (first | apply Kd.V_alloc | apply Kd.V_drewN | apply Kd.V_drew)); exact HO_4.out) hb); have n1_ := Aside0.mk (Kd.R_below (by (with_reducible repeat (first | apply Kd.R_alloc | apply Kd.R_drewN | apply Kd.R_drew)); exact HO_5.out) hb); have n2_ := Aside0.mk (blk_below (g := gb142) (o := .cells #[.int .i64 x143000_1, .int .i64 x143001_1, .int .i64 x143002_1, .int .u32 x143003_1] 48 (0, 0)) (by (with_reducible repeat (first | refine blk_drewN ?_ _ | refine blk_drew ?_ | refine blk_alloc ?_ _)); exact BK142.out) hb); have n3_ := Aside0.mk (blk_below (g := gb152) (o := .cells #[.int .i64 (rd t148 x6_1), .int .i64 x153001_40, .int .i64 x153002_40, .int .u32 x153003_26] 48 (0, 0)) (by (with_reducible repeat (first | refine blk_drewN ?_ _ | refine blk_drew ?_ | refine blk_alloc ?_ _)); exact BK152.out) hb); have n4_ := Aside0.mk (below_step (by repeat (first | (with_reducible first | exact HB.out | apply below_alloc | apply pw_below_drewN | apply below_drew1 | refine below_set ?_ GE142.out | refine below_set ?_ GE152.out) | exact HB.out)) hb); clear HO_4; clear HO_5; clear BK142; clear BK152; clear HB; have HO_4 := n0_; have HO_5 := n1_; have BK142 := n2_; have BK152 := n3_; have HB := n4_; clear n0_ n1_ n2_ n3_ n4_; (try clear hb); (try clear hb2); (try clear hk); (try clear hi))); try go_wp2_with (first | (go_at_call 22; (with_reducible refine (hurdleref02_Right.calls kj40 (rd t148 x6_1) x153001_40 x153002_40 x153003_26 true _ A52.out).mono ?_); rintro e w65 ⟨rfl, hb⟩; have n0_ := Aside0.mk (Kd.V_below (by (with_reducible repeat (first | apply Kd.V_alloc | apply Kd.V_drewN | apply Kd.V_drew)); exact HO_4.out) hb); have n1_ := Aside0.mk (Kd.R_below (by (with_reducible repeat (first | apply Kd.R_alloc | apply Kd.R_drewN | apply Kd.R_drew)); exact HO_5.out) hb); have n2_ := Aside0.mk (blk_below (g := gb142) (o := .cells #[.int .i64 x143000_1, .int .i64 x143001_1, .int .i64 x143002_1, .int .u32 x143003_1] 48 (0, 0)) (by (with_reducible repeat (first | refine blk_drewN ?_ _ | refine blk_drew ?_ | refine blk_alloc ?_ _)); exact BK142.out) hb); have n3_ := Aside0.mk (blk_below (g := gb152) (o := .cells #[.int .i64 (rd t148 x6_1), .int .i64 x153001_40, .int .i64 x153002_40, .int .u32 x153003_26] 48 (0, 0)) (by (with_reducible repeat (first | refine blk_drewN ?_ _ | refine blk_drew ?_ | refine blk_alloc ?_ _)); exact BK152.out) hb); have n4_ := Aside0.mk (below_step (by repeat (first | (with_reducible first | exact HB.out | apply below_alloc | apply pw_below_drewN | apply below_drew1 | refine below_set ?_ GE142.out | refine below_set ?_ GE152.out) | exact HB.out)) hb); clear HO_4; clear HO_5; clear BK142; clear BK152; clear HB; have HO_4 := n0_; have HO_5 := n1_; have BK142 := n2_; have BK152 := n3_; have HB := n4_; clear n0_ n1_ n2_ n3_ n4_; (try clear hb); (try clear hb2); (try clear hk); (try clear hi); have hcz66_0 : w65.cell? ⟨gb152, 0, none⟩ = some (.int .i64 (rd t148 x6_1)) := (blk_cell BK152.out 0).trans rfl; have hcz66_1 : w65.cell? ⟨gb152, 1, none⟩ = some (.int .i64 x153001_40) := (blk_cell BK152.out 1).trans rfl; have hcz66_2 : w65.cell? ⟨gb152, 2, none⟩ = some (.int .i64 x153002_40) := (blk_cell BK152.out 2).trans rfl; have hcz66_3 : w65.cell? ⟨gb152, 3, none⟩ = some (.int .u32 x153003_26) := (blk_cell BK152.out 3).trans rfl; have hfz66_0 := blk_frozen BK152.out 0; have hfz66_1 := blk_frozen BK152.out 1; have hfz66_2 := blk_frozen BK152.out 2; have hfz66_3 := blk_frozen BK152.out 3) | (go_at_call 29; (with_reducible refine (hurdleref02_Print.calls kj40 (rd t148 x6_1) x153001_40 x153002_40 x153003_26 t175 _ A54.out).mono ?_); rintro e w67 ⟨rfl, hb⟩; have n0_ := Aside0.mk (Kd.V_below (by (with_reducible repeat (first | apply Kd.V_alloc | apply Kd.V_drewN | apply Kd.V_drew)); exact HO_4.out) hb); have n1_ := Aside0.mk (Kd.R_below (by (with_reducible repeat (first | apply Kd.R_alloc | apply Kd.R_drewN | apply Kd.R_drew)); exact HO_5.out) hb); have n2_ := Aside0.mk (blk_below (g := gb142) (o := .cells #[.int .i64 x143000_1, .int .i64 x143001_1, .int .i64 x143002_1, .int .u32 x143003_1] 48 (0, 0)) (by (with_reducible repeat (first | refine blk_drewN ?_ _ | refine blk_drew ?_ | refine blk_alloc ?_ _)); exact BK142.out) hb); have n3_ := Aside0.mk (blk_below (g := gb152) (o := .cells #[.int .i64 (rd t148 x6_1), .int .i64 x153001_40, .int .i64 x153002_40, .int .u32 x153003_26] 48 (0, 0)) (by (with_reducible repeat (first | refine blk_drewN ?_ _ | refine blk_drew ?_ | refine blk_alloc ?_ _)); exact BK152.out) hb); have n4_ := Aside0.mk (below_step (by repeat (first | (with_reducible first | exact HB.out | apply below_alloc | apply pw_below_drewN | apply below_drew1 | refine below_set ?_ GE142.out | refine below_set ?_ GE152.out) | exact HB.out)) hb); clear HO_4; clear HO_5; clear BK142; clear BK152; clear HB; have HO_4 := n0_; have HO_5 := n1_; have BK142 := n2_; have BK152 := n3_; have HB := n4_; clear n0_ n1_ n2_ n3_ n4_; (try clear hb); (try clear hb2); (try clear hk); (try clear hi))))
                                        go_roundg kj40
                                        case measure => have := HK1.out; have := HJ6.out; have := HJ16.out; have := HJ26.out; have := HJ36.out; have := HJ40.out; omega
                                        case rel => exact ⟨(wrap64 (x6_1 + 1)), (x143000_1), (x143001_1), (x143002_1), (x143003_1), (by first | rfl | (simp; done) | (simp [*]; done)), H', ⟨by have := HK1.out; have := HJ6.out; have := HJ16.out; have := HJ26.out; have := HJ36.out; have := HJ40.out; omega⟩, ⟨by (with_reducible repeat (first | apply Kd.V_alloc | apply Kd.V_drewN | apply Kd.V_drew)); exact Kd.V_mono HO_4.out (fun _ hk => ⟨hk.1, ⟨hk.2.1, hk.2.2.1⟩⟩)⟩, ⟨by (with_reducible repeat (first | apply Kd.R_alloc | apply Kd.R_drewN | apply Kd.R_drew)); exact HO_5.out⟩, ⟨by (with_reducible repeat (first | refine blk_drewN ?_ _ | refine blk_drew ?_ | refine blk_alloc ?_ _)); exact BK142.out⟩, ⟨by repeat (first | (with_reducible first | exact HB.out | apply below_alloc | apply pw_below_drewN | apply below_drew1 | refine below_set ?_ GE142.out | refine below_set ?_ GE152.out) | exact HB.out)⟩⟩
                                    · replace c53 := Bool.eq_false_iff.mpr c53
                                      subst c53
                                      have H1 : (hurdleref02_Parse.l0 kj40 a0 l1 t143 (wrap64 (x6_1 + 1))) = some (r1, r2, r3, r4, r5) := by rw [if_neg (show ¬ (false = true) by decide)] at H; exact H
                                      clear H
                                      have H := H1
                                      clear H1
                                      have H' := Aside0.mk H
                                      clear H
                                      have hnb68 := NB152_142.out
                                      have hnc68 := NB142_152.out
                                      have hcz69_0 : wc.cell? ⟨gb152, 0, none⟩ = some (.int .i64 (rd t148 x6_1)) := (blk_cell BK152.out 0).trans rfl
                                      have hcz69_1 : wc.cell? ⟨gb152, 1, none⟩ = some (.int .i64 x153001_40) := (blk_cell BK152.out 1).trans rfl
                                      have hcz69_2 : wc.cell? ⟨gb152, 2, none⟩ = some (.int .i64 x153002_40) := (blk_cell BK152.out 2).trans rfl
                                      have hcz69_3 : wc.cell? ⟨gb152, 3, none⟩ = some (.int .u32 x153003_26) := (blk_cell BK152.out 3).trans rfl
                                      have hfz69_0 := blk_frozen BK152.out 0
                                      have hfz69_1 := blk_frozen BK152.out 1
                                      have hfz69_2 := blk_frozen BK152.out 2
                                      have hfz69_3 := blk_frozen BK152.out 3
                                      go_wp2_with (first | (go_at_call 22; (with_reducible refine (hurdleref02_Right.calls kj40 (rd t148 x6_1) x153001_40 x153002_40 x153003_26 false _ A52.out).mono ?_); rintro e w70 ⟨rfl, hb⟩; have n0_ := Aside0.mk (Kd.V_below (by (with_reducible repeat (first | apply Kd.V_alloc | apply Kd.V_drewN | apply Kd.V_drew)); exact HO_4.out) hb); have n1_ := Aside0.mk (Kd.R_below (by (with_reducible repeat (first | apply Kd.R_alloc | apply Kd.R_drewN | apply Kd.R_drew)); exact HO_5.out) hb); have n2_ := Aside0.mk (blk_below (g := gb142) (o := .cells #[.int .i64 x143000_1, .int .i64 x143001_1, .int .i64 x143002_1, .int .u32 x143003_1] 48 (0, 0)) (by (with_reducible repeat (first | refine blk_drewN ?_ _ | refine blk_drew ?_ | refine blk_alloc ?_ _)); exact BK142.out) hb); have n3_ := Aside0.mk (blk_below (g := gb152) (o := .cells #[.int .i64 (rd t148 x6_1), .int .i64 x153001_40, .int .i64 x153002_40, .int .u32 x153003_26] 48 (0, 0)) (by (with_reducible repeat (first | refine blk_drewN ?_ _ | refine blk_drew ?_ | refine blk_alloc ?_ _)); exact BK152.out) hb); have n4_ := Aside0.mk (below_step (by repeat (first | (with_reducible first | exact HB.out | apply below_alloc | apply pw_below_drewN | apply below_drew1 | refine below_set ?_ GE142.out | refine below_set ?_ GE152.out) | exact HB.out)) hb); clear HO_4; clear HO_5; clear BK142; clear BK152; clear HB; have HO_4 := n0_; have HO_5 := n1_; have BK142 := n2_; have BK152 := n3_; have HB := n4_; clear n0_ n1_ n2_ n3_ n4_; (try clear hb); (try clear hb2); (try clear hk); (try clear hi)))
                                      repeat (go_quiet (first | (go_at_call 22; (with_reducible refine (hurdleref02_Right.calls kj40 (rd t148 x6_1) x153001_40 x153002_40 x153003_26 false _ A52.out).mono ?_); rintro e w70 ⟨rfl, hb⟩; have n0_ := Aside0.mk (Kd.V_below (by (with_reducible repeat (first | apply Kd.V_alloc | apply Kd.V_drewN | apply Kd.V_drew)); exact HO_4.out) hb); have n1_ := Aside0.mk (Kd.R_below (by (with_reducible repeat (first | apply Kd.R_alloc | apply Kd.R_drewN | apply Kd.R_drew)); exact HO_5.out) hb); have n2_ := Aside0.mk (blk_below (g := gb142) (o := .cells #[.int .i64 x143000_1, .int .i64 x143001_1, .int .i64 x143002_1, .int .u32 x143003_1] 48 (0, 0)) (by (with_reducible repeat (first | refine blk_drewN ?_ _ | refine blk_drew ?_ | refine blk_alloc ?_ _)); exact BK142.out) hb); have n3_ := Aside0.mk (blk_below (g := gb152) (o := .cells #[.int .i64 (rd t148 x6_1), .int .i64 x153001_40, .int .i64 x153002_40, .int .u32 x153003_26] 48 (0, 0)) (by (with_reducible repeat (first | refine blk_drewN ?_ _ | refine blk_drew ?_ | refine blk_alloc ?_ _)); exact BK152.out) hb); have n4_ := Aside0.mk (below_step (by repeat (first | (with_reducible first | exact HB.out | apply below_alloc | apply pw_below_drewN | apply below_drew1 | refine below_set ?_ GE142.out | refine below_set ?_ GE152.out) | exact HB.out)) hb); clear HO_4; clear HO_5; clear BK142; clear BK152; clear HB; have HO_4 := n0_; have HO_5 := n1_; have BK142 := n2_; have BK152 := n3_; have HB := n4_; clear n0_ n1_ n2_ n3_ n4_; (try clear hb); (try clear hb2); (try clear hk); (try clear hi))); try go_wp2_with (first | (go_at_call 22; (with_reducible refine (hurdleref02_Right.calls kj40 (rd t148 x6_1) x153001_40 x153002_40 x153003_26 false _ A52.out).mono ?_); rintro e w70 ⟨rfl, hb⟩; have n0_ := Aside0.mk (Kd.V_below (by (with_reducible repeat (first | apply Kd.V_alloc | apply Kd.V_drewN | apply Kd.V_drew)); exact HO_4.out) hb); have n1_ := Aside0.mk (Kd.R_below (by (with_reducible repeat (first | apply Kd.R_alloc | apply Kd.R_drewN | apply Kd.R_drew)); exact HO_5.out) hb); have n2_ := Aside0.mk (blk_below (g := gb142) (o := .cells #[.int .i64 x143000_1, .int .i64 x143001_1, .int .i64 x143002_1, .int .u32 x143003_1] 48 (0, 0)) (by (with_reducible repeat (first | refine blk_drewN ?_ _ | refine blk_drew ?_ | refine blk_alloc ?_ _)); exact BK142.out) hb); have n3_ := Aside0.mk (blk_below (g := gb152) (o := .cells #[.int .i64 (rd t148 x6_1), .int .i64 x153001_40, .int .i64 x153002_40, .int .u32 x153003_26] 48 (0, 0)) (by (with_reducible repeat (first | refine blk_drewN ?_ _ | refine blk_drew ?_ | refine blk_alloc ?_ _)); exact BK152.out) hb); have n4_ := Aside0.mk (below_step (by repeat (first | (with_reducible first | exact HB.out | apply below_alloc | apply pw_below_drewN | apply below_drew1 | refine below_set ?_ GE142.out | refine below_set ?_ GE152.out) | exact HB.out)) hb); clear HO_4; clear HO_5; clear BK142; clear BK152; clear HB; have HO_4 := n0_; have HO_5 := n1_; have BK142 := n2_; have BK152 := n3_; have HB := n4_; clear n0_ n1_ n2_ n3_ n4_; (try clear hb); (try clear hb2); (try clear hk); (try clear hi))))
                                      go_roundg kj40
                                      case measure => have := HK1.out; have := HJ6.out; have := HJ16.out; have := HJ26.out; have := HJ36.out; have := HJ40.out; omega
                                      case rel => exact ⟨(wrap64 (x6_1 + 1)), (x143000_1), (x143001_1), (x143002_1), (x143003_1), (by first | rfl | (simp; done) | (simp [*]; done)), H', ⟨by have := HK1.out; have := HJ6.out; have := HJ16.out; have := HJ26.out; have := HJ36.out; have := HJ40.out; omega⟩, ⟨by (with_reducible repeat (first | apply Kd.V_alloc | apply Kd.V_drewN | apply Kd.V_drew)); exact Kd.V_mono HO_4.out (fun _ hk => ⟨hk.1, ⟨hk.2.1, hk.2.2.1⟩⟩)⟩, ⟨by (with_reducible repeat (first | apply Kd.R_alloc | apply Kd.R_drewN | apply Kd.R_drew)); exact HO_5.out⟩, ⟨by (with_reducible repeat (first | refine blk_drewN ?_ _ | refine blk_drew ?_ | refine blk_alloc ?_ _)); exact BK142.out⟩, ⟨by repeat (first | (with_reducible first | exact HB.out | apply below_alloc | apply pw_below_drewN | apply below_drew1 | refine below_set ?_ GE142.out | refine below_set ?_ GE152.out) | exact HB.out)⟩⟩
                  · rw [if_neg c16] at H
                    exact absurd H (by simp)
                · rw [if_neg c15] at H
                  exact absurd H (by simp)
              · rw [if_neg c14] at H
                exact absurd H (by simp)
      · rw [if_neg c6] at H
        have c6b0 : decide (x6_1 < (t143.length : Int)) = false := decide_eq_false c6
        clear c6
        simp only [Option.some.injEq, Prod.mk.injEq] at H
        obtain ⟨rfl, rfl, rfl, rfl, rfl⟩ := H
        obtain ⟨Ao71, co71, eo71⟩ := Kd.R_slice HO_5.out
        subst eo71
        have hcz72_0 : wr.cell? ⟨gb142, 0, none⟩ = some (.int .i64 x143000_1) := (blk_cell BK142.out 0).trans rfl
        have hcz72_1 : wr.cell? ⟨gb142, 1, none⟩ = some (.int .i64 x143001_1) := (blk_cell BK142.out 1).trans rfl
        have hcz72_2 : wr.cell? ⟨gb142, 2, none⟩ = some (.int .i64 x143002_1) := (blk_cell BK142.out 2).trans rfl
        have hcz72_3 : wr.cell? ⟨gb142, 3, none⟩ = some (.int .u32 x143003_1) := (blk_cell BK142.out 3).trans rfl
        have hfz72_0 := blk_frozen BK142.out 0
        have hfz72_1 := blk_frozen BK142.out 1
        have hfz72_2 := blk_frozen BK142.out 2
        have hfz72_3 := blk_frozen BK142.out 3
        go_wp2
        repeat (go_quiet (fail); try go_wp2)
        refine bodyPost_ret (results_ct rfl _ _ gb142 48 #[.int .i64 0, .int .i64 0, .int .i64 0, .int .u32 0] (0, 0) _ rfl (by (with_reducible repeat (first | refine blk_drewN ?_ _ | refine blk_drew ?_ | refine blk_alloc ?_ _)); refine blk_put (cs := #[.int .i64 0, .int .i64 0, .int .i64 0, .int .u32 x143003_1]) ?_ 3 _ rfl; (with_reducible repeat (first | refine blk_drewN ?_ _ | refine blk_drew ?_ | refine blk_alloc ?_ _)); refine blk_put (cs := #[.int .i64 0, .int .i64 0, .int .i64 x143002_1, .int .u32 x143003_1]) ?_ 2 _ rfl; (with_reducible repeat (first | refine blk_drewN ?_ _ | refine blk_drew ?_ | refine blk_alloc ?_ _)); refine blk_put (cs := #[.int .i64 0, .int .i64 x143001_1, .int .i64 x143002_1, .int .u32 x143003_1]) ?_ 1 _ rfl; (with_reducible repeat (first | refine blk_drewN ?_ _ | refine blk_drew ?_ | refine blk_alloc ?_ _)); refine blk_put (cs := #[.int .i64 x143000_1, .int .i64 x143001_1, .int .i64 x143002_1, .int .u32 x143003_1]) ?_ 0 _ rfl; (with_reducible repeat (first | refine blk_drewN ?_ _ | refine blk_drew ?_ | refine blk_alloc ?_ _)); exact BK142.out) Tryd.underlying48 rfl (by kernel_rfl)) rfl ?_
        exact ⟨by first | rfl | (simp [errW_none, errW_some] <;> rfl) | (simp [*, errW_none, errW_some] <;> rfl), by repeat (first | (with_reducible first | exact HB.out | apply below_alloc | apply pw_below_drewN | apply below_drew1 | refine below_set ?_ GE142.out) | exact HB.out)⟩


end Go.Proofs.YtidlcpflfokehaaDoor.M
