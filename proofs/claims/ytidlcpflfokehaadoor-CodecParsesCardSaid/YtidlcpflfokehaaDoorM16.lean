/- By a program of this session: what Go functions of the seat compute, as Lean functions, each with a proof that the call of the Go function comes to that. -/
import Derived.Test.YtidlcpflfokehaaDoorM0
import Derived.Test.YtidlcpflfokehaaDoorM13
import Derived.Test.YtidlcpflfokehaaDoorM14
import Derived.Test.YtidlcpflfokehaaDoorM15
namespace Go.Proofs.YtidlcpflfokehaaDoor.M
open Go.RowKit Go.Proofs.YtidlcpflfokehaaDoorW.PrintWords Go.Proofs.YtidlcpflfokehaaDoorW.PrintLast Go.Proofs.YtidlcpflfokehaaDoorW.PrintMore
attribute [local go_sem] max2_int min2_int max_two min_two max_three min_three max_four min_four   -- for this text's walks alone
set_option linter.unusedVariables false
set_option linter.unusedSimpArgs false

/-! ### hurdleref02_Print: function 29 -/
def hurdleref02_Print.j0 : Nat → Int → ByteArray → Int → Int → Int → Int → Option (ByteArray)
  | 0, _, _, _, _, _, _ => none
  | k + 1, x3, x4, x201000, x201001, x201002, x201003 => (hurdleref02_branch.f x3).bind fun t208 => (if t208 = true then (if x4.size + 1 ≤ 9223372036854775807 then ((hurdleref01_Text.f k (IntKind.u64.wrap (x201001))).bind fun t209 => (if (x4 ++ (⟨#[32]⟩ : ByteArray)).size + t209.size ≤ 9223372036854775807 then (if ((x4 ++ (⟨#[32]⟩ : ByteArray)) ++ t209).size + 1 ≤ 9223372036854775807 then ((hurdleref01_Text.f k (IntKind.u64.wrap (x201002))).bind fun t210 => (if (((x4 ++ (⟨#[32]⟩ : ByteArray)) ++ t209) ++ (⟨#[32]⟩ : ByteArray)).size + t210.size ≤ 9223372036854775807 then (some ((((x4 ++ (⟨#[32]⟩ : ByteArray)) ++ t209) ++ (⟨#[32]⟩ : ByteArray)) ++ t210)) else (none))) else (none)) else (none))) else (none)) else (some x4))
def hurdleref02_Print.f (k : Nat) (a0_0 : Int) (a0_1 : Int) (a0_2 : Int) (a0_3 : Int) : Option (ByteArray) := (hurdleref02_place.f k a0_0).bind fun t201 => ((hurdleref02_Words.f).bind fun t202 => (if 0 ≤ t201 then (if t201 < (t202.length : Int) then ((hurdleref02_plain.f t201).bind fun t206 => (if t206 = true then (hurdleref02_Print.j0 k t201 (rdOf ByteArray.empty t202 t201) a0_0 a0_1 a0_2 a0_3) else (if (rdOf ByteArray.empty t202 t201).size + 1 ≤ 9223372036854775807 then ((hurdleref01_Text.f k (IntKind.u64.wrap (a0_3))).bind fun t207 => (if ((rdOf ByteArray.empty t202 t201) ++ (⟨#[32]⟩ : ByteArray)).size + t207.size ≤ 9223372036854775807 then (hurdleref02_Print.j0 k t201 (((rdOf ByteArray.empty t202 t201) ++ (⟨#[32]⟩ : ByteArray)) ++ t207) a0_0 a0_1 a0_2 a0_3) else (none))) else (none)))) else (none)) else (none)))
theorem hurdleref02_Print.mono_l : ∀ k, (∀ y0 y1 y2 y3 y4 y5, LeO (hurdleref02_Print.j0 k y0 y1 y2 y3 y4 y5) (hurdleref02_Print.j0 (k + 1) y0 y1 y2 y3 y4 y5))
  | 0 => fun _ _ _ _ _ _ r h => by simp [hurdleref02_Print.j0] at h
  | k + 1 => by
    have ih0 := hurdleref02_Print.mono_l k
    · intro y0 y1 y2 y3 y4 y5
      unfold hurdleref02_Print.j0
      repeat' first
      | (with_reducible exact ih0 _ _ _ _ _ _)
      | (with_reducible exact hurdleref01_Text.mono _ _)
      | (with_reducible exact hurdleref02_place.mono _ _)
      | (with_reducible exact LeO.refl _)
      | (with_reducible exact LeO.none _)
      | (with_reducible refine LeO.ite ?_ ?_)
      | (with_reducible refine LeO.bind ?_ (fun _ => ?_))
      | exact ih0 _ _ _ _ _ _
      | exact hurdleref01_Text.mono _ _
      | exact hurdleref02_place.mono _ _
      | exact LeO.none _
      | refine LeO.ite ?_ ?_
      | refine LeO.bind ?_ (fun _ => ?_)
theorem hurdleref02_Print.mono : ∀ a0 a1 a2 a3 k, LeO (hurdleref02_Print.f k a0 a1 a2 a3) (hurdleref02_Print.f (k + 1) a0 a1 a2 a3) := by
  intro a0 a1 a2 a3 k
  have ih0 := hurdleref02_Print.mono_l k
  unfold hurdleref02_Print.f
  repeat' first
      | (with_reducible exact ih0 _ _ _ _ _ _)
      | (with_reducible exact hurdleref01_Text.mono _ _)
      | (with_reducible exact hurdleref02_place.mono _ _)
      | (with_reducible exact LeO.refl _)
      | (with_reducible exact LeO.none _)
      | (with_reducible refine LeO.ite ?_ ?_)
      | (with_reducible refine LeO.bind ?_ (fun _ => ?_))
      | exact ih0 _ _ _ _ _ _
      | exact hurdleref01_Text.mono _ _
      | exact hurdleref02_place.mono _ _
      | exact LeO.none _
      | refine LeO.ite ?_ ?_
      | refine LeO.bind ?_ (fun _ => ?_)
def hurdleref02_Print.T6 : Bool × List (List Nat × List Nat) := (true, [([], []), ([0], [0]), ([], []), ([2], [2]), ([3], [3]), ([4], [4]), ([1, 5], [1, 5]), ([6], [6]), ([], []), ([8], [8]), ([9], [9]), ([10, 5], [10]), ([7, 11], [7, 11]), ([12, 11, 0, 1, 2, 3, 4, 5, 6, 7, 8, 9, 10, 11, 12], [0, 12])])
def hurdleref02_Print.B6 : List Nat := [0, 1, 0, 4, 12, 28, 63, 127, 0, 256, 768, 1852, 4095, 8191]
theorem hurdleref02_Print.tab6 : rtab .any (opsOf Tryd.f29 6) = hurdleref02_Print.T6 := by kernel_rfl
theorem hurdleref02_Print.bits6 : waitsOk hurdleref02_Print.T6.2 hurdleref02_Print.B6 = true := by kernel_rfl
set_option maxHeartbeats 8000000 in
set_option maxRecDepth 100000 in
theorem hurdleref02_Print.calls (k : Nat) (a0_0 : Int) (a0_1 : Int) (a0_2 : Int) (a0_3 : Int) (r : ByteArray) (w : World) (h : hurdleref02_Print.f k a0_0 a0_1 a0_2 a0_3 = some r) :
    Calls Tryd.prog 29 #[.agg #[.int .i64 a0_0, .int .i64 a0_1, .int .i64 a0_2, .int .u32 a0_3]] w fun e w' => e = .returned (.string r) ∧ Below w.heap.size w w' := by
  have hu48 := Tryd.underlying48
  have HB := Aside0.mk (Below.refl w.heap.size w)
  have H : ((hurdleref02_place.f k a0_0).bind fun t201 => ((hurdleref02_Words.f).bind fun t202 => (if 0 ≤ t201 then (if t201 < (t202.length : Int) then ((hurdleref02_plain.f t201).bind fun t206 => (if t206 = true then (hurdleref02_Print.j0 k t201 (rdOf ByteArray.empty t202 t201) a0_0 a0_1 a0_2 a0_3) else (if (rdOf ByteArray.empty t202 t201).size + 1 ≤ 9223372036854775807 then ((hurdleref01_Text.f k (IntKind.u64.wrap (a0_3))).bind fun t207 => (if ((rdOf ByteArray.empty t202 t201) ++ (⟨#[32]⟩ : ByteArray)).size + t207.size ≤ 9223372036854775807 then (hurdleref02_Print.j0 k t201 (((rdOf ByteArray.empty t202 t201) ++ (⟨#[32]⟩ : ByteArray)) ++ t207) a0_0 a0_1 a0_2 a0_3) else (none))) else (none)))) else (none)) else (none)))) = some r := h
  clear h
  replace H := Option.bind_eq_some_iff.mp H
  obtain ⟨t201, A20, H⟩ := H
  replace H : ((hurdleref02_Words.f).bind fun t202 => (if 0 ≤ t201 then (if t201 < (t202.length : Int) then ((hurdleref02_plain.f t201).bind fun t206 => (if t206 = true then (hurdleref02_Print.j0 k t201 (rdOf ByteArray.empty t202 t201) a0_0 a0_1 a0_2 a0_3) else (if (rdOf ByteArray.empty t202 t201).size + 1 ≤ 9223372036854775807 then ((hurdleref01_Text.f k (IntKind.u64.wrap (a0_3))).bind fun t207 => (if ((rdOf ByteArray.empty t202 t201) ++ (⟨#[32]⟩ : ByteArray)).size + t207.size ≤ 9223372036854775807 then (hurdleref02_Print.j0 k t201 (((rdOf ByteArray.empty t202 t201) ++ (⟨#[32]⟩ : ByteArray)) ++ t207) a0_0 a0_1 a0_2 a0_3) else (none))) else (none)))) else (none)) else (none))) = some r := H
  have A2 := Aside0.mk A20
  clear A20
  replace H := Option.bind_eq_some_iff.mp H
  obtain ⟨t202, A30, H⟩ := H
  replace H : (if 0 ≤ t201 then (if t201 < (t202.length : Int) then ((hurdleref02_plain.f t201).bind fun t206 => (if t206 = true then (hurdleref02_Print.j0 k t201 (rdOf ByteArray.empty t202 t201) a0_0 a0_1 a0_2 a0_3) else (if (rdOf ByteArray.empty t202 t201).size + 1 ≤ 9223372036854775807 then ((hurdleref01_Text.f k (IntKind.u64.wrap (a0_3))).bind fun t207 => (if ((rdOf ByteArray.empty t202 t201) ++ (⟨#[32]⟩ : ByteArray)).size + t207.size ≤ 9223372036854775807 then (hurdleref02_Print.j0 k t201 (((rdOf ByteArray.empty t202 t201) ++ (⟨#[32]⟩ : ByteArray)) ++ t207) a0_0 a0_1 a0_2 a0_3) else (none))) else (none)))) else (none)) else (none)) = some r := H
  have A3 := Aside0.mk A30
  clear A30
  by_cases c4 : 0 ≤ t201
  · rw [if_pos c4] at H
    have c4b0 : decide (0 ≤ t201) = true := decide_eq_true c4
    clear c4
    by_cases c5 : t201 < (t202.length : Int)
    · rw [if_pos c5] at H
      have c5b0 : decide (t201 < (t202.length : Int)) = true := decide_eq_true c5
      clear c5
      replace H := Option.bind_eq_some_iff.mp H
      obtain ⟨t206, A60, H⟩ := H
      replace H : (if t206 = true then (hurdleref02_Print.j0 k t201 (rdOf ByteArray.empty t202 t201) a0_0 a0_1 a0_2 a0_3) else (if (rdOf ByteArray.empty t202 t201).size + 1 ≤ 9223372036854775807 then ((hurdleref01_Text.f k (IntKind.u64.wrap (a0_3))).bind fun t207 => (if ((rdOf ByteArray.empty t202 t201) ++ (⟨#[32]⟩ : ByteArray)).size + t207.size ≤ 9223372036854775807 then (hurdleref02_Print.j0 k t201 (((rdOf ByteArray.empty t202 t201) ++ (⟨#[32]⟩ : ByteArray)) ++ t207) a0_0 a0_1 a0_2 a0_3) else (none))) else (none))) = some r := H
      have A6 := Aside0.mk A60
      clear A60
      have HC7 := Aside0.mk H
      clear H
      go_enter Tryd.func29, Tryd.ntmps29
      go_upto_if 14 with (first | ((with_reducible refine gate_dst (N := 1) rfl ?_); refine box_event ?hg (N := 1) ?hd (cs := #[.int .i64 a0_0, .int .i64 a0_1, .int .i64 a0_2, .int .u32 a0_3]) (t := 48) ?hr ?_; (case hd => rfl); (case hg => rfl); (case hr => first | (go_simp; done) | (go_simp; rfl)); intro gb200 hg w8 hbox hb; have n0_ := Aside0.mk (below_step (by repeat (first | (with_reducible first | exact HB.out | apply below_alloc | apply pw_below_drewN | apply below_drew1) | exact HB.out)) hb); have n1_ := Aside0.mk (hbox); have n2_ := Aside0.mk ((by rw [hg]; exact (below_size (by repeat (first | (with_reducible first | exact HB.out | apply below_alloc | apply pw_below_drewN | apply below_drew1) | exact HB.out))) : w.heap.size ≤ gb200)); have n3_ := Aside0.mk ((by rw [hg]; exact (below_size (by repeat (first | (with_reducible first | exact HB.out | apply below_alloc | apply pw_below_drewN | apply below_drew1) | exact HB.out))) : w.heap.size ≤ gb200)); clear HB; have HB := n0_; have BK200 := n1_; have GW200 := n2_; have GE200 := n3_; clear n0_ n1_ n2_ n3_; clear hb hbox hg; have hcz9_0 : w8.cell? ⟨gb200, 0, none⟩ = some (.int .i64 a0_0) := (blk_cell BK200.out 0).trans rfl; have hcz9_1 : w8.cell? ⟨gb200, 1, none⟩ = some (.int .i64 a0_1) := (blk_cell BK200.out 1).trans rfl; have hcz9_2 : w8.cell? ⟨gb200, 2, none⟩ = some (.int .i64 a0_2) := (blk_cell BK200.out 2).trans rfl; have hcz9_3 : w8.cell? ⟨gb200, 3, none⟩ = some (.int .u32 a0_3) := (blk_cell BK200.out 3).trans rfl; have hfz9_0 := blk_frozen BK200.out 0; have hfz9_1 := blk_frozen BK200.out 1; have hfz9_2 := blk_frozen BK200.out 2; have hfz9_3 := blk_frozen BK200.out 3) | ((with_reducible refine gate_callee (f := 31) rfl ?_); refine goesL_ (some 7) rfl rfl Tryd.func31 (by kernel_rfl) rfl #[.int .i64 a0_0] rfl (by (try simp only [List.map_toArray, List.map_cons, List.map_nil]); first | done | rfl | (simp only [List.length_drop, List.length_take]; rfl)) ?_; (with_reducible refine (hurdleref02_place.calls k a0_0 t201 _ A2.out).mono ?_); rintro e w10 ⟨rfl, hb⟩; refine ⟨_, rfl, ?_⟩; have n0_ := Aside0.mk (blk_below (g := gb200) (o := .cells #[.int .i64 a0_0, .int .i64 a0_1, .int .i64 a0_2, .int .u32 a0_3] 48 (0, 0)) (by (with_reducible repeat (first | refine blk_drewN ?_ _ | refine blk_drew ?_ | refine blk_alloc ?_ _)); exact BK200.out) hb); have n1_ := Aside0.mk (below_step (by repeat (first | (with_reducible first | exact HB.out | apply below_alloc | apply pw_below_drewN | apply below_drew1 | refine below_set ?_ GE200.out) | exact HB.out)) hb); clear BK200; clear HB; have BK200 := n0_; have HB := n1_; clear n0_ n1_; (try clear hb); (try clear hb2); (try clear hk); (try clear hi)) | ((with_reducible refine gate_callee (f := 37) rfl ?_); refine goesL_ (some 8) rfl rfl Tryd.func37 (by kernel_rfl) rfl #[] rfl (by (try simp only [List.map_toArray, List.map_cons, List.map_nil]); first | done | rfl | (simp only [List.length_drop, List.length_take]; rfl)) ?_; (with_reducible refine (hurdleref02_Words.calls  t202 _ A3.out).mono ?_); rintro e w11 ⟨v203, rfl, ho0, hb⟩; refine ⟨_, rfl, ?_⟩; have n0_ := Aside0.mk (Kd.R_lower ho0 (below_size (by repeat (first | (with_reducible first | exact HB.out | apply below_alloc | apply pw_below_drewN | apply below_drew1 | refine below_set ?_ GE200.out) | exact HB.out)))); have n1_ := Aside0.mk (blk_below (g := gb200) (o := .cells #[.int .i64 a0_0, .int .i64 a0_1, .int .i64 a0_2, .int .u32 a0_3] 48 (0, 0)) (by (with_reducible repeat (first | refine blk_drewN ?_ _ | refine blk_drew ?_ | refine blk_alloc ?_ _)); exact BK200.out) hb); have n2_ := Aside0.mk (below_step (by repeat (first | (with_reducible first | exact HB.out | apply below_alloc | apply pw_below_drewN | apply below_drew1 | refine below_set ?_ GE200.out) | exact HB.out)) hb); clear BK200; clear HB; have HO204 := n0_; have BK200 := n1_; have HB := n2_; clear n0_ n1_ n2_; (try clear hb); (try clear hb2); (try clear hk); (try clear hi); (try clear ho0); obtain ⟨Ao12, co12, eo12⟩ := Kd.R_slice HO204.out; subst eo12; have p205 : 0 ≤ (t201 : Int) := of_decide_eq_true (by first | (with_reducible assumption) | assumption); have q205 : t201 < (t202.length : Int) := of_decide_eq_true (by first | (with_reducible assumption) | assumption); obtain ⟨ad205, e205, hx205_0⟩ := Kd.at_string (Kd.R_reads' HO204.out).2.2 t201 p205 q205; cases e205; replace p205 := eq_true p205; replace q205 := eq_true q205) | ((with_reducible refine gate_callee (f := 32) rfl ?_); refine goesL_ (some 13) rfl rfl Tryd.func32 (by kernel_rfl) rfl #[.int .i64 t201] rfl (by (try simp only [List.map_toArray, List.map_cons, List.map_nil]); first | done | rfl | (simp only [List.length_drop, List.length_take]; rfl)) ?_; (with_reducible refine (hurdleref02_plain.calls t201 t206 _ A6.out).mono ?_); rintro e w' ⟨rfl, ⟨nd, rfl⟩⟩; refine ⟨_, rfl, ?_⟩))
      (try simp only [Act.put, List.setIfInBounds_toArray, List.set_cons_zero, List.set_cons_succ])
      go_cut [4] (fun v4 wc => ∃ (kq : Nat) (x4_6 : ByteArray), v4 = .string x4_6 ∧ Aside0 (hurdleref02_Print.j0 kq t201 x4_6 a0_0 a0_1 a0_2 a0_3 = some r) ∧ Aside0 (kq ≤ k) ∧ Aside0 (wc.heap[gb200]? = some (.cells #[.int .i64 a0_0, .int .i64 a0_1, .int .i64 a0_2, .int .u32 a0_3] 48 (0, 0))) ∧ Aside0 (Below w.heap.size w wc))
      case first =>
        have H := HC7.out
        clear HC7
        by_cases c13 : t206 = true
        · subst c13
          have H1 : (hurdleref02_Print.j0 k t201 (rdOf ByteArray.empty t202 t201) a0_0 a0_1 a0_2 a0_3) = some r := by rw [if_pos rfl] at H; exact H
          clear H
          have H := H1
          clear H1
          have H' := Aside0.mk H
          clear H
          go_wp2
          go_meet
          case rel => exact ⟨_, (rdOf ByteArray.empty t202 t201), (by first | rfl | (simp; done) | (simp [*]; done)), H', ⟨by first | omega | exact Nat.le_refl _⟩, ⟨by (with_reducible repeat (first | refine blk_drewN ?_ _ | refine blk_drew ?_ | refine blk_alloc ?_ _)); exact BK200.out⟩, ⟨by repeat (first | (with_reducible first | exact HB.out | apply below_alloc | apply pw_below_drewN | apply below_drew1 | refine below_set ?_ GE200.out) | exact HB.out)⟩⟩
        · replace c13 := Bool.eq_false_iff.mpr c13
          subst c13
          have H1 : (if (rdOf ByteArray.empty t202 t201).size + 1 ≤ 9223372036854775807 then ((hurdleref01_Text.f k (IntKind.u64.wrap (a0_3))).bind fun t207 => (if ((rdOf ByteArray.empty t202 t201) ++ (⟨#[32]⟩ : ByteArray)).size + t207.size ≤ 9223372036854775807 then (hurdleref02_Print.j0 k t201 (((rdOf ByteArray.empty t202 t201) ++ (⟨#[32]⟩ : ByteArray)) ++ t207) a0_0 a0_1 a0_2 a0_3) else (none))) else (none)) = some r := by rw [if_neg (show ¬ (false = true) by decide)] at H; exact H
          clear H
          have H := H1
          clear H1
          by_cases c14 : (rdOf ByteArray.empty t202 t201).size + 1 ≤ 9223372036854775807
          · rw [if_pos c14] at H
            have c14b0 := eq_true c14
            have c14b1 : decide ((rdOf ByteArray.empty t202 t201).size + 1 ≤ 9223372036854775807) = true := decide_eq_true c14
            try have c14b2 : (9223372036854775807 < (rdOf ByteArray.empty t202 t201).size + 1) = False := eq_false (Nat.not_lt.2 c14)
            replace H := Option.bind_eq_some_iff.mp H
            obtain ⟨t207, A150, H⟩ := H
            replace H : (if ((rdOf ByteArray.empty t202 t201) ++ (⟨#[32]⟩ : ByteArray)).size + t207.size ≤ 9223372036854775807 then (hurdleref02_Print.j0 k t201 (((rdOf ByteArray.empty t202 t201) ++ (⟨#[32]⟩ : ByteArray)) ++ t207) a0_0 a0_1 a0_2 a0_3) else (none)) = some r := H
            have A15 := Aside0.mk A150
            clear A150
            by_cases c16 : ((rdOf ByteArray.empty t202 t201) ++ (⟨#[32]⟩ : ByteArray)).size + t207.size ≤ 9223372036854775807
            · rw [if_pos c16] at H
              have c16b0 := eq_true c16
              have c16b1 : decide (((rdOf ByteArray.empty t202 t201) ++ (⟨#[32]⟩ : ByteArray)).size + t207.size ≤ 9223372036854775807) = true := decide_eq_true c16
              try have c16b2 : (9223372036854775807 < ((rdOf ByteArray.empty t202 t201) ++ (⟨#[32]⟩ : ByteArray)).size + t207.size) = False := eq_false (Nat.not_lt.2 c16)
              try have c16b3 : (9223372036854775807 < ((rdOf ByteArray.empty t202 t201).size + 1) + t207.size) = False := (by have q := c16b2; simp only [ByteArray.size_append] at q; exact q)
              have H' := Aside0.mk H
              clear H
              have hcz17_0 : w11.cell? ⟨gb200, 0, none⟩ = some (.int .i64 a0_0) := (blk_cell BK200.out 0).trans rfl
              have hcz17_1 : w11.cell? ⟨gb200, 1, none⟩ = some (.int .i64 a0_1) := (blk_cell BK200.out 1).trans rfl
              have hcz17_2 : w11.cell? ⟨gb200, 2, none⟩ = some (.int .i64 a0_2) := (blk_cell BK200.out 2).trans rfl
              have hcz17_3 : w11.cell? ⟨gb200, 3, none⟩ = some (.int .u32 a0_3) := (blk_cell BK200.out 3).trans rfl
              have hfz17_0 := blk_frozen BK200.out 0
              have hfz17_1 := blk_frozen BK200.out 1
              have hfz17_2 := blk_frozen BK200.out 2
              have hfz17_3 := blk_frozen BK200.out 3
              go_wp2_with (first | ((with_reducible refine gate_callee (f := 41) rfl ?_); refine goesL_ (some 20) rfl rfl Tryd.func41 (by kernel_rfl) rfl #[.int .u64 (IntKind.u64.wrap (a0_3))] rfl (by (try simp only [List.map_toArray, List.map_cons, List.map_nil]); first | done | rfl | (simp only [List.length_drop, List.length_take]; rfl)) ?_; (with_reducible refine (hurdleref01_Text.calls k (IntKind.u64.wrap (a0_3)) t207 _ A15.out).mono ?_); rintro e w18 ⟨rfl, hb⟩; refine ⟨_, rfl, ?_⟩; have n0_ := Aside0.mk (Kd.R_below (by (with_reducible repeat (first | apply Kd.R_alloc | apply Kd.R_drewN | apply Kd.R_drew)); exact HO204.out) hb); have n1_ := Aside0.mk (blk_below (g := gb200) (o := .cells #[.int .i64 a0_0, .int .i64 a0_1, .int .i64 a0_2, .int .u32 a0_3] 48 (0, 0)) (by (with_reducible repeat (first | refine blk_drewN ?_ _ | refine blk_drew ?_ | refine blk_alloc ?_ _)); exact BK200.out) hb); have n2_ := Aside0.mk (below_step (by repeat (first | (with_reducible first | exact HB.out | apply below_alloc | apply pw_below_drewN | apply below_drew1 | refine below_set ?_ GE200.out) | exact HB.out)) hb); clear HO204; clear BK200; clear HB; have HO204 := n0_; have BK200 := n1_; have HB := n2_; clear n0_ n1_ n2_; (try clear hb); (try clear hb2); (try clear hk); (try clear hi)))
              go_meet
              case rel => exact ⟨_, (((rdOf ByteArray.empty t202 t201) ++ (⟨#[32]⟩ : ByteArray)) ++ t207), (by first | rfl | (simp; done) | (simp [*]; done)), H', ⟨by first | omega | exact Nat.le_refl _⟩, ⟨by (with_reducible repeat (first | refine blk_drewN ?_ _ | refine blk_drew ?_ | refine blk_alloc ?_ _)); exact BK200.out⟩, ⟨by repeat (first | (with_reducible first | exact HB.out | apply below_alloc | apply pw_below_drewN | apply below_drew1 | refine below_set ?_ GE200.out) | exact HB.out)⟩⟩
            · rw [if_neg c16] at H
              exact absurd H (by simp)
          · rw [if_neg c14] at H
            exact absurd H (by simp)
      case rest =>
        clear HC7
        try clear c1
        try clear c2
        try clear p2
        try clear q2
        try clear hx2
        try clear c3
        try clear c4
        try clear c4b0
        try clear c5
        try clear c5b0
        try clear c13
        try clear c14
        try clear c14b0
        try clear c14b1
        try clear c14b2
        try clear c16
        try clear c16b0
        try clear c16b1
        try clear c16b2
        try clear hcz17_0
        try clear hcz17_1
        try clear hcz17_2
        try clear hcz17_3
        try clear hcz9_0
        try clear hcz9_1
        try clear hcz9_2
        try clear hcz9_3
        try clear hfz17_0
        try clear hfz17_1
        try clear hfz17_2
        try clear hfz17_3
        try clear hfz9_0
        try clear hfz9_1
        try clear hfz9_2
        try clear hfz9_3
        try clear hx205_0
        try clear p205
        try clear q205
        obtain ⟨kq, x4_6, rfl, HA, HJ6, BK200, HB⟩ := hcut
        cases kq with
        | zero => exact absurd HA.out (by simp [hurdleref02_Print.j0])
        | succ kj6 =>
          have H := HA.out
          clear HA
          simp only [hurdleref02_Print.j0] at H
          replace H := Option.bind_eq_some_iff.mp H
          obtain ⟨t208, A190, H⟩ := H
          replace H : (if t208 = true then (if x4_6.size + 1 ≤ 9223372036854775807 then ((hurdleref01_Text.f kj6 (IntKind.u64.wrap (a0_1))).bind fun t209 => (if (x4_6 ++ (⟨#[32]⟩ : ByteArray)).size + t209.size ≤ 9223372036854775807 then (if ((x4_6 ++ (⟨#[32]⟩ : ByteArray)) ++ t209).size + 1 ≤ 9223372036854775807 then ((hurdleref01_Text.f kj6 (IntKind.u64.wrap (a0_2))).bind fun t210 => (if (((x4_6 ++ (⟨#[32]⟩ : ByteArray)) ++ t209) ++ (⟨#[32]⟩ : ByteArray)).size + t210.size ≤ 9223372036854775807 then (some ((((x4_6 ++ (⟨#[32]⟩ : ByteArray)) ++ t209) ++ (⟨#[32]⟩ : ByteArray)) ++ t210)) else (none))) else (none)) else (none))) else (none)) else (some x4_6)) = some r := H
          have A19 := Aside0.mk A190
          clear A190
          by_cases c20 : t208 = true
          · subst c20
            have H1 : (if x4_6.size + 1 ≤ 9223372036854775807 then ((hurdleref01_Text.f kj6 (IntKind.u64.wrap (a0_1))).bind fun t209 => (if (x4_6 ++ (⟨#[32]⟩ : ByteArray)).size + t209.size ≤ 9223372036854775807 then (if ((x4_6 ++ (⟨#[32]⟩ : ByteArray)) ++ t209).size + 1 ≤ 9223372036854775807 then ((hurdleref01_Text.f kj6 (IntKind.u64.wrap (a0_2))).bind fun t210 => (if (((x4_6 ++ (⟨#[32]⟩ : ByteArray)) ++ t209) ++ (⟨#[32]⟩ : ByteArray)).size + t210.size ≤ 9223372036854775807 then (some ((((x4_6 ++ (⟨#[32]⟩ : ByteArray)) ++ t209) ++ (⟨#[32]⟩ : ByteArray)) ++ t210)) else (none))) else (none)) else (none))) else (none)) = some r := by rw [if_pos rfl] at H; exact H
            clear H
            have H := H1
            clear H1
            by_cases c21 : x4_6.size + 1 ≤ 9223372036854775807
            · rw [if_pos c21] at H
              have c21b0 := eq_true c21
              have c21b1 : decide (x4_6.size + 1 ≤ 9223372036854775807) = true := decide_eq_true c21
              try have c21b2 : (9223372036854775807 < x4_6.size + 1) = False := eq_false (Nat.not_lt.2 c21)
              replace H := Option.bind_eq_some_iff.mp H
              obtain ⟨t209, A220, H⟩ := H
              replace H : (if (x4_6 ++ (⟨#[32]⟩ : ByteArray)).size + t209.size ≤ 9223372036854775807 then (if ((x4_6 ++ (⟨#[32]⟩ : ByteArray)) ++ t209).size + 1 ≤ 9223372036854775807 then ((hurdleref01_Text.f kj6 (IntKind.u64.wrap (a0_2))).bind fun t210 => (if (((x4_6 ++ (⟨#[32]⟩ : ByteArray)) ++ t209) ++ (⟨#[32]⟩ : ByteArray)).size + t210.size ≤ 9223372036854775807 then (some ((((x4_6 ++ (⟨#[32]⟩ : ByteArray)) ++ t209) ++ (⟨#[32]⟩ : ByteArray)) ++ t210)) else (none))) else (none)) else (none)) = some r := H
              have A22 := Aside0.mk A220
              clear A220
              by_cases c23 : (x4_6 ++ (⟨#[32]⟩ : ByteArray)).size + t209.size ≤ 9223372036854775807
              · rw [if_pos c23] at H
                have c23b0 := eq_true c23
                have c23b1 : decide ((x4_6 ++ (⟨#[32]⟩ : ByteArray)).size + t209.size ≤ 9223372036854775807) = true := decide_eq_true c23
                try have c23b2 : (9223372036854775807 < (x4_6 ++ (⟨#[32]⟩ : ByteArray)).size + t209.size) = False := eq_false (Nat.not_lt.2 c23)
                try have c23b3 : (9223372036854775807 < (x4_6.size + 1) + t209.size) = False := (by have q := c23b2; simp only [ByteArray.size_append] at q; exact q)
                by_cases c24 : ((x4_6 ++ (⟨#[32]⟩ : ByteArray)) ++ t209).size + 1 ≤ 9223372036854775807
                · rw [if_pos c24] at H
                  have c24b0 := eq_true c24
                  have c24b1 : decide (((x4_6 ++ (⟨#[32]⟩ : ByteArray)) ++ t209).size + 1 ≤ 9223372036854775807) = true := decide_eq_true c24
                  try have c24b2 : (9223372036854775807 < ((x4_6 ++ (⟨#[32]⟩ : ByteArray)) ++ t209).size + 1) = False := eq_false (Nat.not_lt.2 c24)
                  try have c24b3 : (9223372036854775807 < ((x4_6.size + 1) + t209.size) + 1) = False := (by have q := c24b2; simp only [ByteArray.size_append] at q; exact q)
                  replace H := Option.bind_eq_some_iff.mp H
                  obtain ⟨t210, A250, H⟩ := H
                  replace H : (if (((x4_6 ++ (⟨#[32]⟩ : ByteArray)) ++ t209) ++ (⟨#[32]⟩ : ByteArray)).size + t210.size ≤ 9223372036854775807 then (some ((((x4_6 ++ (⟨#[32]⟩ : ByteArray)) ++ t209) ++ (⟨#[32]⟩ : ByteArray)) ++ t210)) else (none)) = some r := H
                  have A25 := Aside0.mk A250
                  clear A250
                  by_cases c26 : (((x4_6 ++ (⟨#[32]⟩ : ByteArray)) ++ t209) ++ (⟨#[32]⟩ : ByteArray)).size + t210.size ≤ 9223372036854775807
                  · rw [if_pos c26] at H
                    have c26b0 := eq_true c26
                    have c26b1 : decide ((((x4_6 ++ (⟨#[32]⟩ : ByteArray)) ++ t209) ++ (⟨#[32]⟩ : ByteArray)).size + t210.size ≤ 9223372036854775807) = true := decide_eq_true c26
                    try have c26b2 : (9223372036854775807 < (((x4_6 ++ (⟨#[32]⟩ : ByteArray)) ++ t209) ++ (⟨#[32]⟩ : ByteArray)).size + t210.size) = False := eq_false (Nat.not_lt.2 c26)
                    try have c26b3 : (9223372036854775807 < (((x4_6.size + 1) + t209.size) + 1) + t210.size) = False := (by have q := c26b2; simp only [ByteArray.size_append] at q; exact q)
                    obtain rfl := Option.some.inj H
                    try go_wp2_with (first | ((with_reducible refine gate_callee (f := 33) rfl ?_); refine goesL_ (some 23) rfl rfl Tryd.func33 (by kernel_rfl) rfl #[.int .i64 t201] rfl (by (try simp only [List.map_toArray, List.map_cons, List.map_nil]); first | done | rfl | (simp only [List.length_drop, List.length_take]; rfl)) ?_; (with_reducible refine (hurdleref02_branch.calls t201 true _ A19.out).mono ?_); rintro e w' ⟨rfl, ⟨nd, rfl⟩⟩; refine ⟨_, rfl, ?_⟩))
                    (try (rw [drewN_self wc]; generalize hq_ : World.drewN wc _ = wc; have n0_ : Aside0 (wc.heap[gb200]? = some (.cells #[.int .i64 a0_0, .int .i64 a0_1, .int .i64 a0_2, .int .u32 a0_3] 48 (0, 0))) := ⟨by rw [← hq_]; exact (by (with_reducible repeat (first | refine blk_drewN ?_ _ | refine blk_drew ?_ | refine blk_alloc ?_ _)); exact BK200.out)⟩; have n1_ : Aside0 (Below w.heap.size w wc) := ⟨by rw [← hq_]; exact (by repeat (first | (with_reducible first | exact HB.out | apply below_alloc | apply pw_below_drewN | apply below_drew1 | refine below_set ?_ GE200.out) | exact HB.out))⟩; clear BK200 HB hq_; have BK200 := n0_; have HB := n1_; clear n0_ n1_))
                    have n0_ := Aside0.mk (blk_drew BK200.out)
                    have n1_ := Aside0.mk (below_drew1 HB.out)
                    clear BK200
                    clear HB
                    have BK200 := n0_
                    have HB := n1_
                    clear n0_ n1_
                    refine start_ (n := 14) (S := fun w' => w'.cell? ⟨gb200, 0, none⟩ = some (.int .i64 a0_0) ∧ w'.cell? ⟨gb200, 1, none⟩ = some (.int .i64 a0_1) ∧ w'.cell? ⟨gb200, 2, none⟩ = some (.int .i64 a0_2) ∧ w'.cell? ⟨gb200, 3, none⟩ = some (.int .u32 a0_3)) (ds := []) #[false, false, false, false, false, false, false, false, false, false, false, false, false, false] (by kernel_rfl) rfl rfl ⟨(blk_cell BK200.out 0).trans rfl, (blk_cell BK200.out 1).trans rfl, (blk_cell BK200.out 2).trans rfl, (blk_cell BK200.out 3).trans rfl⟩ (fun hHeld => ?_); refine with_tabW hurdleref02_Print.tab6 hurdleref02_Print.bits6 (fun HT_ HW_ => ?_)
                    generalize wc.drew = w27 at BK200 HB hHeld ⊢
                    refine pure_ (i := 0) (N := some 24) (v := ?_) (a' := ?_) #[true, false, false, false, false, false, false, false, false, false, false, false, false, false] rfl rfl (any_of HT_.out (by kernel_rfl)) (fun _ _ _ h => h) (Or.inl ⟨by rfl, ?_⟩) ?_ ?_
                    rotate_left
                    · intro w'
                      go_simp
                      with_reducible rfl
                    rotate_left
                    · simp only [Act.put, List.setIfInBounds_toArray, List.set_cons_zero, List.set_cons_succ, i64_w, i32_w]
                      rfl
                    refine pure_ (i := 1) (N := some 25) (v := ?_) (a' := ?_) #[true, true, false, false, false, false, false, false, false, false, false, false, false, false] rfl rfl (any_of HT_.out (by kernel_rfl)) (fun _ _ _ h => h) (Or.inl ⟨by rfl, ?_⟩) ?_ ?_
                    rotate_left
                    · intro w'
                      go_simp
                      with_reducible rfl
                    rotate_left
                    · simp only [Act.put, List.setIfInBounds_toArray, List.set_cons_zero, List.set_cons_succ, i64_w, i32_w]
                      rfl
                    refine pure_ (i := 2) (N := some 26) (v := ?_) (a' := ?_) #[true, true, true, false, false, false, false, false, false, false, false, false, false, false] rfl rfl (any_of HT_.out (by kernel_rfl)) (fun _ _ _ h => h) (Or.inl ⟨by rfl, ?_⟩) ?_ ?_
                    rotate_left
                    · intro w'
                      go_simp
                      with_reducible rfl
                    rotate_left
                    · simp only [Act.put, List.setIfInBounds_toArray, List.set_cons_zero, List.set_cons_succ, i64_w, i32_w]
                      rfl
                    refine pure_ (i := 8) (N := some 32) (v := ?_) (a' := ?_) #[true, true, true, false, false, false, false, false, true, false, false, false, false, false] rfl rfl (any_of HT_.out (by kernel_rfl)) (fun _ _ _ h => h) (Or.inl ⟨by rfl, ?_⟩) ?_ ?_
                    rotate_left
                    · intro w'
                      go_simp
                      with_reducible rfl
                    rotate_left
                    · simp only [Act.put, List.setIfInBounds_toArray, List.set_cons_zero, List.set_cons_succ, i64_w, i32_w]
                      rfl
                    refine take_ (i := 3) (N := some 27) (v := ?_) (a' := ?_) #[true, true, true, true, false, false, false, false, true, false, false, false, false, false] rfl rfl (take_ofW HT_.out HW_.out (by kernel_rfl)) (fun _ _ _ h => h) (Or.inl ⟨by rfl, ?_⟩) hHeld ?_ ?_
                    rotate_left
                    · rintro w' ⟨s0, s1, s2, s3⟩
                      go_simp
                      with_reducible rfl
                    rotate_left
                    · simp only [Act.put, List.setIfInBounds_toArray, List.set_cons_zero, List.set_cons_succ, i64_w, i32_w]
                      rfl
                    refine pure_ (i := 4) (N := some 28) (v := ?_) (a' := ?_) #[true, true, true, true, true, false, false, false, true, false, false, false, false, false] rfl rfl (any_of HT_.out (by kernel_rfl)) (fun _ _ _ h => h) (Or.inl ⟨by rfl, ?_⟩) ?_ ?_
                    rotate_left
                    · intro w'
                      go_simp
                      with_reducible rfl
                    rotate_left
                    · simp only [Act.put, List.setIfInBounds_toArray, List.set_cons_zero, List.set_cons_succ, i64_w, i32_w]
                      rfl
                    refine take_ (i := 9) (N := some 33) (v := ?_) (a' := ?_) #[true, true, true, true, true, false, false, false, true, true, false, false, false, false] rfl rfl (take_ofW HT_.out HW_.out (by kernel_rfl)) (fun _ _ _ h => h) (Or.inl ⟨by rfl, ?_⟩) hHeld ?_ ?_
                    rotate_left
                    · rintro w' ⟨s0, s1, s2, s3⟩
                      go_simp
                      with_reducible rfl
                    rotate_left
                    · simp only [Act.put, List.setIfInBounds_toArray, List.set_cons_zero, List.set_cons_succ, i64_w, i32_w]
                      rfl
                    refine pure_ (i := 10) (N := some 34) (v := ?_) (a' := ?_) #[true, true, true, true, true, false, false, false, true, true, true, false, false, false] rfl rfl (any_of HT_.out (by kernel_rfl)) (fun _ _ _ h => h) (Or.inl ⟨by rfl, ?_⟩) ?_ ?_
                    rotate_left
                    · intro w'
                      go_simp
                      with_reducible rfl
                    rotate_left
                    · simp only [Act.put, List.setIfInBounds_toArray, List.set_cons_zero, List.set_cons_succ, i64_w, i32_w]
                      rfl
                    refine one_ (i := 5) (N := some 29) #[true, true, true, true, true, true, false, false, true, true, true, false, false, false] rfl rfl (one_of HT_.out (by kernel_rfl)) (by decide) (fun K hK => ?_)
                    refine goes_ Tryd.func41 (by kernel_rfl) rfl #[.int .u64 (IntKind.u64.wrap (a0_1))] (by rfl) rfl rfl (by (try simp only [List.map_toArray, List.map_cons, List.map_nil]); first | done | rfl | (simp only [List.length_drop, List.length_take]; rfl)) ?_
                    with_reducible refine (hurdleref01_Text.calls kj6 (IntKind.u64.wrap (a0_1)) t209 _ A22.out).mono ?_
                    rintro e w28 ⟨rfl, hb⟩
                    refine ⟨_, rfl, ?_⟩
                    have n0_ := Aside0.mk (blk_below (g := gb200) (o := .cells #[.int .i64 a0_0, .int .i64 a0_1, .int .i64 a0_2, .int .u32 a0_3] 48 (0, 0)) (by (with_reducible repeat (first | refine blk_drewN ?_ _ | refine blk_drew ?_ | refine blk_alloc ?_ _)); exact BK200.out) hb)
                    have n1_ := Aside0.mk (below_step (by repeat (first | (with_reducible first | exact HB.out | apply below_alloc | apply pw_below_drewN | apply below_drew1 | refine below_set ?_ GE200.out) | exact HB.out)) hb)
                    clear BK200
                    clear HB
                    have BK200 := n0_
                    have HB := n1_
                    clear n0_ n1_
                    (try clear hb)
                    (try clear hb2)
                    (try clear hk)
                    (try clear hi)
                    refine hK.out _ _ ⟨(blk_cell BK200.out 0).trans rfl, (blk_cell BK200.out 1).trans rfl, (blk_cell BK200.out 2).trans rfl, (blk_cell BK200.out 3).trans rfl⟩ (fun hHeld => ?_)
                    clear hK K
                    refine norm_ (a' := ?_) ?_ ?_
                    rotate_left
                    · show Act.put _ (some 29) _ = _
                      simp only [Act.put, List.setIfInBounds_toArray, List.set_cons_zero, List.set_cons_succ, i64_w, i32_w]
                      rfl
                    refine pure_ (i := 6) (N := some 30) (v := ?_) (a' := ?_) #[true, true, true, true, true, true, true, false, true, true, true, false, false, false] rfl rfl (any_of HT_.out (by kernel_rfl)) (fun _ _ _ h => h) (Or.inl ⟨by rfl, ?_⟩) ?_ ?_
                    rotate_left
                    · intro w'
                      go_simp
                      with_reducible rfl
                    rotate_left
                    · simp only [Act.put, List.setIfInBounds_toArray, List.set_cons_zero, List.set_cons_succ, i64_w, i32_w]
                      rfl
                    refine pure_ (i := 7) (N := some 31) (v := ?_) (a' := ?_) #[true, true, true, true, true, true, true, true, true, true, true, false, false, false] rfl rfl (any_of HT_.out (by kernel_rfl)) (fun _ _ _ h => h) (Or.inl ⟨by rfl, ?_⟩) ?_ ?_
                    rotate_left
                    · intro w'
                      go_simp
                      with_reducible rfl
                    rotate_left
                    · simp only [Act.put, List.setIfInBounds_toArray, List.set_cons_zero, List.set_cons_succ, i64_w, i32_w]
                      rfl
                    refine one_ (i := 11) (N := some 35) #[true, true, true, true, true, true, true, true, true, true, true, true, false, false] rfl rfl (one_of HT_.out (by kernel_rfl)) (by decide) (fun K hK => ?_)
                    refine goes_ Tryd.func41 (by kernel_rfl) rfl #[.int .u64 (IntKind.u64.wrap (a0_2))] (by rfl) rfl rfl (by (try simp only [List.map_toArray, List.map_cons, List.map_nil]); first | done | rfl | (simp only [List.length_drop, List.length_take]; rfl)) ?_
                    with_reducible refine (hurdleref01_Text.calls kj6 (IntKind.u64.wrap (a0_2)) t210 _ A25.out).mono ?_
                    rintro e w29 ⟨rfl, hb⟩
                    refine ⟨_, rfl, ?_⟩
                    have n0_ := Aside0.mk (blk_below (g := gb200) (o := .cells #[.int .i64 a0_0, .int .i64 a0_1, .int .i64 a0_2, .int .u32 a0_3] 48 (0, 0)) (by (with_reducible repeat (first | refine blk_drewN ?_ _ | refine blk_drew ?_ | refine blk_alloc ?_ _)); exact BK200.out) hb)
                    have n1_ := Aside0.mk (below_step (by repeat (first | (with_reducible first | exact HB.out | apply below_alloc | apply pw_below_drewN | apply below_drew1 | refine below_set ?_ GE200.out) | exact HB.out)) hb)
                    clear BK200
                    clear HB
                    have BK200 := n0_
                    have HB := n1_
                    clear n0_ n1_
                    (try clear hb)
                    (try clear hb2)
                    (try clear hk)
                    (try clear hi)
                    refine hK.out _ _ ⟨(blk_cell BK200.out 0).trans rfl, (blk_cell BK200.out 1).trans rfl, (blk_cell BK200.out 2).trans rfl, (blk_cell BK200.out 3).trans rfl⟩ (fun hHeld => ?_)
                    clear hK K
                    refine norm_ (a' := ?_) ?_ ?_
                    rotate_left
                    · show Act.put _ (some 35) _ = _
                      simp only [Act.put, List.setIfInBounds_toArray, List.set_cons_zero, List.set_cons_succ, i64_w, i32_w]
                      rfl
                    refine pure_ (i := 12) (N := some 36) (v := ?_) (a' := ?_) #[true, true, true, true, true, true, true, true, true, true, true, true, true, false] rfl rfl (any_of HT_.out (by kernel_rfl)) (fun _ _ _ h => h) (Or.inl ⟨by rfl, ?_⟩) ?_ ?_
                    rotate_left
                    · intro w'
                      go_simp
                      with_reducible rfl
                    rotate_left
                    · simp only [Act.put, List.setIfInBounds_toArray, List.set_cons_zero, List.set_cons_succ, i64_w, i32_w]
                      rfl
                    refine pure_ (i := 13) (N := some 4) (v := ?_) (a' := ?_) #[true, true, true, true, true, true, true, true, true, true, true, true, true, true] rfl rfl (any_of HT_.out (by kernel_rfl)) (fun _ _ _ h => h) (Or.inl ⟨by rfl, ?_⟩) ?_ ?_
                    rotate_left
                    · intro w'
                      go_simp
                      with_reducible rfl
                    rotate_left
                    · simp only [Act.put, List.setIfInBounds_toArray, List.set_cons_zero, List.set_cons_succ, i64_w, i32_w]
                      rfl
                    refine done_ (done_of HT_.out (by kernel_rfl)) ?_
                    try go_wp2
                    go_ret
                    exact ⟨by first | rfl | (simp [errW_none, errW_some] <;> rfl) | (simp [*, errW_none, errW_some] <;> rfl), by repeat (first | (with_reducible first | exact HB.out | apply below_alloc | apply pw_below_drewN | apply below_drew1 | refine below_set ?_ GE200.out) | exact HB.out)⟩
                  · rw [if_neg c26] at H
                    exact absurd H (by simp)
                · rw [if_neg c24] at H
                  exact absurd H (by simp)
              · rw [if_neg c23] at H
                exact absurd H (by simp)
            · rw [if_neg c21] at H
              exact absurd H (by simp)
          · replace c20 := Bool.eq_false_iff.mpr c20
            subst c20
            have H1 : (some x4_6) = some r := by rw [if_neg (show ¬ (false = true) by decide)] at H; exact H
            clear H
            have H := H1
            clear H1
            obtain rfl := Option.some.inj H
            go_wp2_with (first | ((with_reducible refine gate_callee (f := 33) rfl ?_); refine goesL_ (some 23) rfl rfl Tryd.func33 (by kernel_rfl) rfl #[.int .i64 t201] rfl (by (try simp only [List.map_toArray, List.map_cons, List.map_nil]); first | done | rfl | (simp only [List.length_drop, List.length_take]; rfl)) ?_; (with_reducible refine (hurdleref02_branch.calls t201 false _ A19.out).mono ?_); rintro e w' ⟨rfl, ⟨nd, rfl⟩⟩; refine ⟨_, rfl, ?_⟩))
            go_ret
            exact ⟨by first | rfl | (simp [errW_none, errW_some] <;> rfl) | (simp [*, errW_none, errW_some] <;> rfl), by repeat (first | (with_reducible first | exact HB.out | apply below_alloc | apply pw_below_drewN | apply below_drew1 | refine below_set ?_ GE200.out) | exact HB.out)⟩
    · rw [if_neg c5] at H
      exact absurd H (by simp)
  · rw [if_neg c4] at H
    exact absurd H (by simp)

end Go.Proofs.YtidlcpflfokehaaDoor.M
