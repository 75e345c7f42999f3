/- The pure statement of CodecBack is proved: bytes, and texts, are read as the filter; what was read has just these bytes. No condition. -/
import Derived.Test.YtidlcpflfokehaaDoorCodP
import Derived.Test.YtidlcpflfokehaaDoorCodA
import Derived.Test.YtidlcpflfokehaaDoorQCodecBack
namespace Go.Proofs.YtidlcpflfokehaaDoor.Pure
set_option linter.unusedVariables false
set_option linter.unusedSimpArgs false
open Go.RowKit Go.Proofs.YtidlcpflfokehaaDoorW.PrintWords Go.Proofs.YtidlcpflfokehaaDoorW.PrintLast Go.Proofs.YtidlcpflfokehaaDoorW.PrintMore Go.Proofs.YtidlcpflfokehaaDoor.M Go.Proofs.YtidlcpflfokehaaDoor.Hex Go.Proofs.YtidlcpflfokehaaDoor.CodecB Go.Proofs.YtidlcpflfokehaaDoor.CodecT Go.Proofs.YtidlcpflfokehaaDoor.CodecP Go.Proofs.YtidlcpflfokehaaDoor.CodecK
theorem back_bytes (b : List Nat) (hb : Bs b) (hl : b.length ≤ 5000) : Ev (fun k => hurdlelaw03_CodecBack.j1 k (I b)) true := by
  refine Ev.step (f := fun k => (codec_Decode.f k (I b)).bind fun bt360 => (if bt360.2 = 0 then ((codec_Encode.f k bt360.1).bind fun bt364 => (if (strOfNums bt364.1).toList = (strOfNums (I b)).toList then (if bt364.2 = 0 then ((codec_Right.f k bt360.1).bind fun t368 => (if t368 = true then ((hurdlelaw03_knows.f k).bind fun t369 => (some t369)) else (none))) else (none)) else (none))) else (if (bt360.1.length : Int) = 0 then ((hurdlelaw03_knows.f k).bind fun t370 => (some t370)) else (none)))) (fun k => ?_) ?_
  · have c : ([] : List Int).length + (I b).length < 140737488355328 := by rw [I_length]; simp; omega
    simp only [hurdlelaw03_CodecBack.j1, Option.bind_some, if_pos c, List.nil_append]
  · refine Ev.bind (decode_is b hb (by omega)) ?_
    rcases decoded_cases b hb with ⟨e, h1, h2⟩ | ⟨g, h1, h2, h3, h4, h5⟩
    · rw [h1]
      simp only [if_neg h2]
      exact Ev.congr (fun k => if_pos rfl) (Ev.bind knows_is (Ev.now _))
    · rw [h1]
      simp only [if_true]
      refine Ev.bind (encode_good g h4 h3) ?_
      rw [h5]
      refine Ev.congr (fun k => (if_pos rfl).trans (if_pos rfl)) ?_
      refine Ev.bind (right_is_all g (by omega)) ?_
      rw [chk_good h4 h3]
      exact Ev.congr (fun k => if_pos rfl) (Ev.bind knows_is (Ev.now _))
theorem CodecBack : Q.CodecBack := by
  intro f l1 _ hf _ hw1
  obtain ⟨b, rfl, hb⟩ := I_of l1 hw1
  refine Ev.rounds ?_
  unfold hurdlelaw03_CodecBack.f
  have out : Ev (fun k => hurdlelaw03_CodecBack.j0 k f (I b) true) true :=
    Ev.step (f := fun k => (hurdlelaw03_knows.f k).bind fun t => some t) (fun k => by simp [hurdlelaw03_CodecBack.j0]) (Ev.bind knows_is (Ev.now _))
  by_cases h1 : (f.length : Int) > 500
  · exact Ev.congr (fun k => if_pos h1) out
  · refine Ev.congr (fun k => if_neg h1) ?_
    by_cases h2 : ((I b).length : Int) > 5000
    · rw [decide_eq_true h2]; exact out
    · rw [decide_eq_false h2]
      rw [I_length] at h2
      have hback := back_bytes b hb (by omega)
      refine Ev.step (fun k => by simp only [hurdlelaw03_CodecBack.j0, Bool.false_eq_true, if_false]; rfl) ?_
      refine Ev.bind (encode_is f (by omega) hf) ?_
      rcases chk_cases f with ⟨e, hn, ho⟩ | ⟨e, _⟩ | ⟨e, _⟩
      · have hg := okL_good hf ho
        rw [e]
        simp only [if_true]
        refine Ev.bind (print_good f hg (by omega)) ?_
        have hd : decoded (encL f) = (f, 0) := by
          unfold decoded
          have := encL_len f
          rw [if_neg (by omega), if_pos (by omega), show (encL f).length / 8 = f.length by omega]
          simpa using decG_enc f [] hg
        have hdi := decode_is (encL f) (encL_bs hg) (by rw [encL_len]; omega)
        rw [hd] at hdi
        refine Ev.bind hdi (Ev.bind (parse_print f hg (by omega)) (Ev.bind (same_is f (by omega)) ?_))
        refine Ev.congr (fun k => (if_pos rfl).trans (if_pos rfl)) (Ev.bind (same_is f (by omega)) ?_)
        refine Ev.congr (fun k => (if_pos rfl).trans ((if_pos rfl).trans (if_pos ?_))) hback
        rw [I_length, encL_len, w64s (by omega) (by omega)]
        rfl
      · rw [e]; simp only [show ((3 : Int) = 0) = False by simp, if_false]; exact hback
      · rw [e]; simp only [show ((1 : Int) = 0) = False by simp, if_false]; exact hback
end Go.Proofs.YtidlcpflfokehaaDoor.Pure
