/- What Go functions compute; their calls come to it. No condition. -/
import Derived.Test.YtohpbjnihmcelaaDoorM0
namespace Go.Proofs.YtohpbjnihmcelaaDoor.M
open Go.RowKit Go.Proofs.YtohpbjnihmcelaaDoorW.PrintWords Go.Proofs.YtohpbjnihmcelaaDoorW.PrintLast Go.Proofs.YtohpbjnihmcelaaDoorW.PrintMore
attribute [local go_sem] max2_int min2_int max_two min_two max_three min_three max_four min_four   -- for this text's walks alone
set_option linter.unusedVariables false
set_option linter.unusedSimpArgs false
def wordsGo (s : ByteArray) : Nat → Nat → List ByteArray
 | 0, frm => [s.extract frm s.size]
 | d + 1, frm => if s.get! (s.size - (d + 1)) = 32 then s.extract frm (s.size - (d + 1)) :: wordsGo s d (s.size - d) else wordsGo s d frm
def wordsOf (s : ByteArray) : List ByteArray := wordsGo s s.size 0
theorem wordsGo_skip (s : ByteArray) (frm : Nat) (m : Nat) : ∀ pos, pos + m ≤ s.size → (∀ j, j < m → s.get! (pos + j) ≠ 32) → wordsGo s (s.size - pos) frm = wordsGo s (s.size - (pos + m)) frm := by
 induction m with
 | zero => intro pos _ _; rfl
 | succ m ih =>
  intro pos hp hj
  obtain ⟨d, hd⟩ : ∃ d, s.size - pos = d + 1 := ⟨s.size - pos - 1, by omega⟩
  rw [hd, wordsGo, show s.size - (d + 1) = pos by omega, if_neg (by have := hj 0 (by omega); simpa using this)]
  rw [show d = s.size - (pos + 1) by omega, ih (pos + 1) (by omega) (fun j hj2 => by rw [show pos + 1 + j = pos + (j + 1) by omega]; exact hj (j + 1) (by omega))]
  rw [show pos + 1 + m = pos + (m + 1) by omega]
theorem words_step_no (s : ByteArray) (frm pos : Nat) (h : pos < s.size) (hc : (Utf8.decode s pos).1 ≠ 32) : wordsGo s (s.size - pos) frm = wordsGo s (s.size - (pos + (Utf8.decode s pos).2)) frm := by
 refine wordsGo_skip s frm _ pos (decode_fits s pos h) (fun j hj => ?_)
 by_cases h0 : j = 0
 ·subst h0
  intro he
  apply hc
  have e : s[pos]'h = 32 := by rw [← get_at s pos h]; exact he
  rw [decode_ascii s pos h (by rw [e]; decide), e]
  rfl
 ·have := (decode_conts s pos j (by omega) hj).2
  intro he
  rw [he] at this
  exact absurd this (by decide)
theorem decode_space (s : ByteArray) (pos : Nat) (h : pos < s.size) (hc : (Utf8.decode s pos).1 = 32) : s.get! pos = 32 ∧ (Utf8.decode s pos).2 = 1 := by
 by_cases ha : (s[pos]'h).toNat < 128
 ·rw [decode_ascii s pos h ha] at hc ⊢
  have e : s.get! pos = s[pos]'h := get_at s pos h
  exact ⟨by rw [e]; exact UInt8.toNat_inj.mp hc, rfl⟩
 ·have := (decode_high s pos h (by omega)).1
  omega
theorem words_step_yes (s : ByteArray) (frm pos : Nat) (h : pos < s.size) (hc : (Utf8.decode s pos).1 = 32) : wordsGo s (s.size - pos) frm = s.extract frm pos :: wordsGo s (s.size - (pos + (Utf8.decode s pos).2)) (pos + 1) := by
 obtain ⟨h1, h2⟩ := decode_space s pos h hc
 obtain ⟨d, hd⟩ : ∃ d, s.size - pos = d + 1 := ⟨s.size - pos - 1, by omega⟩
 rw [hd, wordsGo, show s.size - (d + 1) = pos by omega, if_pos h1, h2, show s.size - d = pos + 1 by omega, show d = s.size - (pos + 1) by omega]
set_option maxHeartbeats 8000000 in
set_option maxRecDepth 100000 in
theorem ins_words.calls (s : ByteArray) (w : World) (hs : s.size < 8796093022000) :
  Calls Tryd.prog 39 #[.string s] w fun e w' => ∃ v, e = .returned v ∧ Kd.R Kd.string 9 w' w.heap.size (fun _ => True) v (wordsOf s) ∧ Below w.heap.size w w' := by
 go_enter Tryd.func39, Tryd.ntmps39
 go_wp2
 have HI : Aside0 ((w.iter s 0).heap[w.heap.size]? = some (.stringIter s 0)) := ⟨World.iter_heap w s 0⟩
 have HB : Aside0 (Below w.heap.size w (w.iter s 0)) := ⟨zA (Below.refl _ _) _⟩
 go_loopw [3, 4] (fun v3 v4 wr => ∃ (out : List ByteArray) (frm pos : Nat), v4 = .int .i64 (frm : Int) ∧ frm ≤ pos ∧ pos ≤ s.size ∧ Aside0 (out ++ wordsGo s (s.size - pos) frm = wordsOf s) ∧ Aside0 (out.length ≤ pos) ∧ Aside0 (Kd.R Kd.string 9 wr w.heap.size (fun _ => True) v3 out) ∧ Aside0 (wr.heap[w.heap.size]? = some (.stringIter s pos)) ∧ Aside0 (Below w.heap.size w wr)) (fun _ _ wr => s.size - wr.iterPos w.heap.size)
 case atStart => exact ⟨[], 0, 0, rfl, Nat.le_refl _, Nat.zero_le _, ⟨rfl⟩, ⟨Nat.le_refl _⟩, ⟨Kd.R_nil _ _ _ _ _⟩, HI, HB⟩
 case round =>
  clear HI HB
  obtain ⟨out, frm, pos, rfl, hfp, hps, HW, HL, HO, HI, HB⟩ := hrel
  have hip : wr.iterPos w.heap.size = pos := by simp [World.iterPos, HI.out]
  have HP := Aside0.mk hip
  clear hip
  by_cases hlt : pos < s.size
  ·have hfit := decode_fits s pos hlt
   have hle := decode_le s pos
   by_cases hc : (Utf8.decode s pos).1 = 32
   ·have HS := Aside0.mk (words_step_yes s frm pos hlt hc)
    have HD2 := Aside0.mk (decode_space s pos hlt hc).2
    have hcb : (((Utf8.decode s pos).1 : Int) == 32) = true := by rw [hc]; rfl
    clear hc
    go_wp2_with (first | ((with_reducible refine gate_dst (N := 9) rfl ?_); refine wpList_next_iter rfl (.tmp 8) rfl rfl HI.out hlt ?_; intro w1 hto; have HT := Aside0.mk hto; clear hto; have HO1 := Aside0.mk (HT.out.strings HI.out HO.out); have HI1 := Aside0.mk (HT.out.at_ HI.out); have HB1 := Aside0.mk (HT.out.below HB.out (Nat.le_refl _)); clear HO HB HI) | ((with_reducible refine gate_builtin (b := .append) (xs := #[.tmp 15, .tmp 20]) rfl ?_); at_builtin; refine Kd.R_append Kd.string (w0 := w) w.heap.size rfl (.tmp 15) (.tmp 20) 77 9 (.string ⟨#[]⟩) 16 rfl Tryd.underlying77 info9 rfl (by decide) (by omega) _ out (s.extract frm pos) [.string (s.extract frm pos)] (fun _ => True) (fun _ => False) rfl rfl ?aP (fun _ hk => hk.elim) ?aF ?aO ?aB ?aS ?aL ?_; (case aP => exact rfl); (case aF => exact (fun _ _ => trivial)); (case aO => exact HO1.out); (case aB => exact HB1.out); (case aS => exact HB1.out.size); (case aL => have := HL.out; omega); intro v2 w2 ho2 hb2 hg2 _; have HX := Aside0.mk ((hg2.block _ (iter_lt HI1.out) (iter_ne HI1.out HO1.out)).trans HI1.out); have HO2 := Aside0.mk ho2; have HB2 := Aside0.mk hb2; clear ho2 hb2))
    have HI2 : Aside0 (w2.heap[w.heap.size]? = some (.stringIter s (pos + (Utf8.decode s pos).2))) := ⟨HX.out⟩
    go_roundw
    case rel => exact ⟨out ++ [s.extract frm pos], pos + 1, pos + (Utf8.decode s pos).2, by go_num, by rw [HD2.out]; exact Nat.le_refl _, hfit, ⟨by rw [List.append_assoc, List.singleton_append, ← HS.out]; exact HW.out⟩, ⟨by have := HL.out; have := decode_pos s pos; simp; omega⟩, HO2, HI2, HB2⟩
    case measure =>
     have e : w2.iterPos w.heap.size = pos + (Utf8.decode s pos).2 := by simp [World.iterPos, HI2.out]
     rw [HP.out, e]
     have := decode_pos s pos
     omega
   ·have HS := Aside0.mk (words_step_no s frm pos hlt hc)
    have hcb : (((Utf8.decode s pos).1 : Int) == 32) = false := bF.mpr (by omega)
    clear hc
    go_wp2_with ((with_reducible refine gate_dst (N := 9) rfl ?_); refine wpList_next_iter rfl (.tmp 8) rfl rfl HI.out hlt ?_; intro w1 hto; have HT := Aside0.mk hto; clear hto)
    go_roundw
    case rel => exact ⟨out, frm, pos + (Utf8.decode s pos).2, rfl, by omega, hfit, ⟨by rw [← HS.out]; exact HW.out⟩, ⟨by have := HL.out; omega⟩, ⟨HT.out.strings HI.out HO.out⟩, ⟨HT.out.at_ HI.out⟩, ⟨HT.out.below HB.out (Nat.le_refl _)⟩⟩
    case measure =>
     have e : w1.iterPos w.heap.size = pos + (Utf8.decode s pos).2 := by simp [World.iterPos, HT.out.at_ HI.out]
     rw [HP.out, e]
     have := decode_pos s pos
     omega
  ·obtain rfl : pos = s.size := by omega
   go_wp2_with (first | ((with_reducible refine gate_dst (N := 9) rfl ?_); refine wpList_next_done rfl (.tmp 8) rfl rfl HI.out hlt ?_) | ((with_reducible refine gate_builtin (b := .append) (xs := #[.tmp 24, .tmp 28]) rfl ?_); at_builtin; refine Kd.R_append Kd.string (w0 := w) w.heap.size rfl (.tmp 24) (.tmp 28) 77 9 (.string ⟨#[]⟩) 16 rfl Tryd.underlying77 info9 rfl (by decide) (by omega) _ out (s.extract frm s.size) [.string (s.extract frm s.size)] (fun _ => True) (fun _ => False) rfl rfl ?aP (fun _ hk => hk.elim) ?aF ?aO ?aB ?aS ?aL ?_; (case aP => exact rfl); (case aF => exact (fun _ _ => trivial)); (case aO => exact HO.out); (case aB => exact HB.out); (case aS => exact HB.out.size); (case aL => have := HL.out; omega); intro v2 w2 ho2 hb2 _ _; have HO2 := Aside0.mk ho2; have HB2 := Aside0.mk hb2; clear ho2 hb2))
   go_ret
   exact ⟨_, rfl, by rw [← HW.out, Nat.sub_self]; exact HO2.out, HB2.out⟩
end Go.Proofs.YtohpbjnihmcelaaDoor.M
