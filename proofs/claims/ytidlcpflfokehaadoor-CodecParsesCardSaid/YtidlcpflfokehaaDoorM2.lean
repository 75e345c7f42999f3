/- By a program of this session: what Go functions of the seat compute, as Lean functions, each with a proof that the call of the Go function comes to that. -/
import Derived.Test.YtidlcpflfokehaaDoorM0
namespace Go.Proofs.YtidlcpflfokehaaDoor.M
open Go.RowKit Go.Proofs.YtidlcpflfokehaaDoorW.PrintWords Go.Proofs.YtidlcpflfokehaaDoorW.PrintLast Go.Proofs.YtidlcpflfokehaaDoorW.PrintMore
attribute [local go_sem] max2_int min2_int max_two min_two max_three min_three max_four min_four   -- for this text's walks alone
set_option linter.unusedVariables false
set_option linter.unusedSimpArgs false

/-! ### ins_of: function 30 -/
def ins_of.f (a0 : Int) : Option (Int × ByteArray × Bool × Bool × Bool) := ofRest shapeT a0
set_option maxHeartbeats 8000000 in
set_option maxRecDepth 100000 in
theorem ins_of.calls (a0 : Int) (r1 : Int) (r2 : ByteArray) (r3 : Bool) (r4 : Bool) (r5 : Bool) (w : World) (hG : Glob w) (h : ins_of.f a0 = some (r1, r2, r3, r4, r5)) :
    Calls Tryd.prog 30 #[.int .i64 a0] w fun e w' => e = .returned (.tuple #[.agg #[.int .i64 r1, .string r2, .bool r3, .bool r4], .bool r5]) ∧ Below w.heap.size w w' := by
  have HG := Aside0.mk hG
  have HH : Aside0 (ofRest (shapeT.drop 0) a0 = some (r1, r2, r3, r4, r5)) := ⟨h⟩
  clear hG h
  go_enter Tryd.func30, Tryd.ntmps30
  go_wp2_with ((with_reducible refine gate_dst (N := 6) rfl ?_); refine wpList_shape_load 68 rfl rfl (HG.out.alloc _) Tryd.underlying68 (by kernel_rfl) ?_)
  have HB := Aside0.mk (Below.refl (w.heap.size + 1) (w.alloc (.cells #[.int .i64 0, .string ⟨#[]⟩, .bool false, .bool false] 62)))
  go_loopw [7] (fun v7 wr => ∃ i : Nat, i ≤ 39 ∧ v7 = .int .i64 (i : Int) ∧ Aside0 (ofRest (shapeT.drop i) a0 = some (r1, r2, r3, r4, r5)) ∧ Aside0 (Below (w.heap.size + 1) (w.alloc (.cells #[.int .i64 0, .string ⟨#[]⟩, .bool false, .bool false] 62)) wr)) (fun v7 _ => 39 - (intOf v7).toNat)
  case atStart => exact ⟨0, by omega, rfl, HH, HB⟩
  case round =>
    clear HB HH
    obtain ⟨i, hi, rfl, HH, HB⟩ := hrel
    by_cases hlt : i < 39
    · have hidx := fun W => shape_index (P := Tryd.prog) W 68 62 i hlt Tryd.underlying68 Tryd.underlying62 (by kernel_rfl)
      obtain ⟨s, hs⟩ : ∃ s, s = shapeT.getD i shapeZ := ⟨_, rfl⟩
      rw [← hs] at hidx
      have hd := shape_snoc i hlt
      rw [← hs] at hd
      have HD := Aside0.mk hd
      clear hs hd
      obtain ⟨s1, s2, s3, s4⟩ := s
      simp only [shapeRow] at hidx
      by_cases he : s1 = a0
      · subst he
        have HR : Aside0 (some (s1, s2, s3, s4, true) = some (r1, r2, r3, r4, r5)) := by
          constructor
          rw [← HH.out, HD.out]
          simp [ofRest]
        have hr := HR.out
        simp only [Option.some.injEq, Prod.mk.injEq] at hr
        obtain ⟨rfl, rfl, rfl, rfl, rfl⟩ := hr
        clear HH HD HR
        have hbk : wr.heap[w.heap.size]? = some (.cells #[.int .i64 0, .string ⟨#[]⟩, .bool false, .bool false] 62 (0, 0)) := (HB.out.block _ (Nat.lt_succ_self _)).trans (heap_alloc_new w _)
        have hsz : w.heap.size < wr.heap.size := by have := HB.out.size; simp at this; omega
        have hc0 : wr.cell? ⟨w.heap.size, 0, none⟩ = some (.int .i64 0) := by simp [World.cell?, hbk]
        have hc1 : wr.cell? ⟨w.heap.size, 1, none⟩ = some (.string ⟨#[]⟩) := by simp [World.cell?, hbk]
        have hc2 : wr.cell? ⟨w.heap.size, 2, none⟩ = some (.bool false) := by simp [World.cell?, hbk]
        have hc3 : wr.cell? ⟨w.heap.size, 3, none⟩ = some (.bool false) := by simp [World.cell?, hbk]
        have hf0 : wr.frozen? ⟨w.heap.size, 0, none⟩ = false := by simp [World.frozen?, hbk]
        have hf1 : wr.frozen? ⟨w.heap.size, 1, none⟩ = false := by simp [World.frozen?, hbk]
        have hf2 : wr.frozen? ⟨w.heap.size, 2, none⟩ = false := by simp [World.frozen?, hbk]
        have hf3 : wr.frozen? ⟨w.heap.size, 3, none⟩ = false := by simp [World.frozen?, hbk]
        clear hbk
        go_wp2
        refine bodyPost_ret (v := .tuple #[.agg #[.int .i64 s1, .string s2, .bool s3, .bool s4], .bool true]) (by simp [results, Tryd.results30, go_sem, hc0, hc1, hc2, hc3, hsz]) rfl ⟨rfl, ?_⟩
        have HBw : Below w.heap.size w wr := ((Below.refl w.heap.size w).alloc (Nat.le_refl _) _).trans (HB.out.mono (Nat.le_succ _))
        exact ((((HBw.setCell (Nat.le_refl _) _).setCell (Nat.le_refl _) _).setCell (Nat.le_refl _) _).setCell (Nat.le_refl _) _).alloc (by simp; omega) _
      · have heb : (s1 == a0) = false := beq_eq_false_iff_ne.mpr he
        have HH2 : Aside0 (ofRest (shapeT.drop (i + 1)) a0 = some (r1, r2, r3, r4, r5)) := by
          constructor
          rw [← HH.out, HD.out]
          simp [ofRest, heb]
        clear HH HD he
        go_wp2
        go_roundw
        case rel => exact ⟨i + 1, by omega, by go_num, HH2, ⟨HB.out.alloc (by have := HB.out.size; simp at this; omega) _⟩⟩
        case measure => simp [intOf]; omega
    · obtain rfl : i = 39 := by omega
      have HR : Aside0 (some (0, ⟨#[]⟩, false, false, false) = some (r1, r2, r3, r4, r5)) := by
        constructor
        rw [← HH.out]
        rfl
      have hr := HR.out
      simp only [Option.some.injEq, Prod.mk.injEq] at hr
      obtain ⟨rfl, rfl, rfl, rfl, rfl⟩ := hr
      clear HH HR
      have hbk : wr.heap[w.heap.size]? = some (.cells #[.int .i64 0, .string ⟨#[]⟩, .bool false, .bool false] 62 (0, 0)) := (HB.out.block _ (Nat.lt_succ_self _)).trans (heap_alloc_new w _)
      have hsz : w.heap.size < wr.heap.size := by have := HB.out.size; simp at this; omega
      have hc0 : wr.cell? ⟨w.heap.size, 0, none⟩ = some (.int .i64 0) := by simp [World.cell?, hbk]
      have hc1 : wr.cell? ⟨w.heap.size, 1, none⟩ = some (.string ⟨#[]⟩) := by simp [World.cell?, hbk]
      have hc2 : wr.cell? ⟨w.heap.size, 2, none⟩ = some (.bool false) := by simp [World.cell?, hbk]
      have hc3 : wr.cell? ⟨w.heap.size, 3, none⟩ = some (.bool false) := by simp [World.cell?, hbk]
      have hf0 : wr.frozen? ⟨w.heap.size, 0, none⟩ = false := by simp [World.frozen?, hbk]
      have hf1 : wr.frozen? ⟨w.heap.size, 1, none⟩ = false := by simp [World.frozen?, hbk]
      have hf2 : wr.frozen? ⟨w.heap.size, 2, none⟩ = false := by simp [World.frozen?, hbk]
      have hf3 : wr.frozen? ⟨w.heap.size, 3, none⟩ = false := by simp [World.frozen?, hbk]
      clear hbk
      go_wp2
      refine bodyPost_ret (v := .tuple #[.agg #[.int .i64 0, .string ⟨#[]⟩, .bool false, .bool false], .bool false]) (by simp [results, Tryd.results30, go_sem, hc0, hc1, hc2, hc3, hsz]) rfl ⟨rfl, ?_⟩
      have HBw : Below w.heap.size w wr := ((Below.refl w.heap.size w).alloc (Nat.le_refl _) _).trans (HB.out.mono (Nat.le_succ _))
      exact (((HBw.setCell (Nat.le_refl _) _).setCell (Nat.le_refl _) _).setCell (Nat.le_refl _) _).setCell (Nat.le_refl _) _



end Go.Proofs.YtidlcpflfokehaaDoor.M
