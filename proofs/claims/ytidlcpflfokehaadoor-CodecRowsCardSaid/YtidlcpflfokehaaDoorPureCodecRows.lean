/- The pure statement of CodecRows is proved: filters one behind the other have their bytes, and their texts, one behind the other. No condition. -/
import Derived.Test.YtidlcpflfokehaaDoorCodA
import Derived.Test.YtidlcpflfokehaaDoorQCodecRows
namespace Go.Proofs.YtidlcpflfokehaaDoor.Pure
set_option linter.unusedVariables false
set_option linter.unusedSimpArgs false
open Go.RowKit Go.Proofs.YtidlcpflfokehaaDoorW.PrintWords Go.Proofs.YtidlcpflfokehaaDoorW.PrintLast Go.Proofs.YtidlcpflfokehaaDoorW.PrintMore Go.Proofs.YtidlcpflfokehaaDoor.M Go.Proofs.YtidlcpflfokehaaDoor.Hex Go.Proofs.YtidlcpflfokehaaDoor.CodecB Go.Proofs.YtidlcpflfokehaaDoor.CodecT Go.Proofs.YtidlcpflfokehaaDoor.CodecK
theorem okL_app (a b : List In) : okL (a ++ b) = (okL a && okL b) := by unfold okL; rw [List.all_append]
theorem chk_small {l : List In} (h : l.length ≤ 4096) : chk l = if okL l = true then 0 else 1 := by unfold chk; rw [if_neg (by omega)]
theorem CodecRows : Q.CodecRows := by
  intro f g _ hf _ hg
  refine Ev.rounds ?_
  unfold hurdlelaw03_CodecRows.f
  have out : Ev (fun k => hurdlelaw03_CodecRows.j0 k f g true) true :=
    Ev.step (f := fun k => (hurdlelaw03_knows.f k).bind fun t => some t) (fun k => by simp [hurdlelaw03_CodecRows.j0]) (Ev.bind knows_is (Ev.now _))
  by_cases h1 : (f.length : Int) > 500
  · exact Ev.congr (fun k => if_pos h1) out
  · refine Ev.congr (fun k => if_neg h1) ?_
    by_cases h2 : (g.length : Int) > 500
    · rw [decide_eq_true h2]; exact out
    · rw [decide_eq_false h2]
      have hfl : f.length ≤ 500 := by omega
      have hgl : g.length ≤ 500 := by omega
      have hfg : (f ++ g).length ≤ 1000 := by rw [List.length_append]; omega
      have hw : ∀ x ∈ f ++ g, Q.wfIns x := fun x hx => by
        rcases List.mem_append.1 hx with hx | hx
        · exact hf x hx
        · exact hg x hx
      refine Ev.step (f := fun k => (codec_Encode.f k f).bind fun bt382 => ((codec_Encode.f k g).bind fun bt386 => ((codec_Encode.f k (f ++ g)).bind fun bt399 => ((codec_Print.f k f).bind fun bt403 => ((codec_Print.f k g).bind fun bt405 => ((codec_Print.f k (f ++ g)).bind fun bt416 => (if bt382.2 = 0 then (hurdlelaw03_CodecRows.j1 k bt382.1 bt386.1 bt399.1 bt399.2 bt403.1 bt405.1 bt416.1 (bt386.2 != 0)) else (hurdlelaw03_CodecRows.j1 k bt382.1 bt386.1 bt399.1 bt399.2 bt403.1 bt405.1 bt416.1 true)))))))) (fun k => ?_) ?_
      · have c1 : ([] : List In).length + f.length < 4398046511104 := by simp; omega
        have c2 : f.length + g.length < 4398046511104 := by omega
        simp only [hurdlelaw03_CodecRows.j0, Bool.false_eq_true, if_false, Option.bind_some, if_pos c1, List.nil_append, if_pos c2]
      · refine Ev.bind (encode_is f (by omega) hf) (Ev.bind (encode_is g (by omega) hg) (Ev.bind (encode_is (f ++ g) (by omega) hw) (Ev.bind (print_all f (by omega) hf) (Ev.bind (print_all g (by omega) hg) (Ev.bind (print_all (f ++ g) (by omega) hw) ?_)))))
        rw [chk_small (l := f) (by omega), chk_small (l := g) (by omega), chk_small (l := f ++ g) (by omega), okL_app]
        have bad : ∀ (a b c d e' : Unit) (x5 x7 x9 : List Int) (y1 y2 y3 : ByteArray), Ev (fun k => hurdlelaw03_CodecRows.j1 k x5 x7 x9 1 y1 y2 y3 true) true := by
          intro _ _ _ _ _ x5 x7 x9 y1 y2 y3
          exact Ev.step (f := fun k => (hurdlelaw03_knows.f k).bind fun t => some t) (fun k => by simp [hurdlelaw03_CodecRows.j1]) (Ev.bind knows_is (Ev.now _))
        cases e1 : okL f
        · simp only [Bool.false_and, Bool.false_eq_true, if_false, show ((1 : Int) = 0) = False by simp]
          exact bad () () () () () _ _ _ _ _ _
        · cases e2 : okL g
          · simp only [Bool.and_false, Bool.false_eq_true, if_false, if_true, show ((1 : Int) = 0) = False by simp, show ((1 : Int) != 0) = true from rfl]
            exact bad () () () () () _ _ _ _ _ _
          · simp only [Bool.and_self, if_true, bne_self_eq_false]
            have q1 := txtL_len (okL_good hf e1)
            have q2 := txtL_len (okL_good hg e2)
            have q3 := encL_len f
            have q4 := encL_len g
            refine Ev.step (f := fun k => (hurdlelaw03_knows.f k).bind fun t => some t) (fun k => ?_) (Ev.bind knows_is (Ev.now _))
            simp only [hurdlelaw03_CodecRows.j1, Bool.false_eq_true, if_false, if_true, I_str]
            rw [if_pos (by rw [str_size, str_size]; omega), if_pos (by rw [encL_app, str_append]), if_pos (by rw [str_size, str_size]; omega), if_pos (by rw [txtL_app, str_append])]
end Go.Proofs.YtidlcpflfokehaaDoor.Pure
