/- The pure statement of CodecReads is proved: any bytes are read as the document says. No condition. -/
import Derived.Test.YtidlcpflfokehaaDoorCodecB
import Derived.Test.YtidlcpflfokehaaDoorCodecK
import Derived.Test.YtidlcpflfokehaaDoorQCodecReads
namespace Go.Proofs.YtidlcpflfokehaaDoor.Pure
set_option linter.unusedVariables false
set_option linter.unusedSimpArgs false
open Go.RowKit Go.Proofs.YtidlcpflfokehaaDoorW.PrintWords Go.Proofs.YtidlcpflfokehaaDoorW.PrintLast Go.Proofs.YtidlcpflfokehaaDoorW.PrintMore Go.Proofs.YtidlcpflfokehaaDoor.M Go.Proofs.YtidlcpflfokehaaDoor.Hex Go.Proofs.YtidlcpflfokehaaDoor.CodecB Go.Proofs.YtidlcpflfokehaaDoor.CodecK
theorem CodecReads : Q.CodecReads := by
  intro l0 _ hw
  obtain ⟨b, rfl, hb⟩ := I_of l0 hw
  refine Ev.rounds ?_
  unfold hurdlelaw03_CodecReads.f
  by_cases h : ((I b).length : Int) > 33000
  · exact Ev.congr (fun k => if_pos h) (Ev.bind knows_is (Ev.now _))
  · have hn : b.length ≤ 33000 := by rw [I_length] at h; omega
    refine Ev.congr (f := fun k => (codec_Decode.f k (I b)).bind fun bt202 => ((hurdleref03_Decode.f k (I b)).bind fun bt206 => ((hurdleref03_Same.f k bt202.1 bt206.1).bind fun t210 => (if t210 = true then (if bt202.2 = bt206.2 then ((hurdlelaw03_knows.f k).bind fun t211 => (some t211)) else (none)) else (none))))) (fun k => ?_) ?_
    · rw [if_neg h]
      simp only [Option.bind_some, List.length_nil, List.nil_append]
      rw [if_pos (by rw [I_length]; omega)]
    · refine Ev.bind (decode_is b hb (by omega)) (Ev.bind (rdecode_is b hb (by omega)) ?_)
      have hs : (decoded b).1.length < 100000 := by
        rcases decoded_cases b hb with ⟨e, h1, _⟩ | ⟨g, h1, _, h2, _⟩
        · rw [h1]; simp
        · rw [h1]; simp only; omega
      refine Ev.bind (same_is _ hs) ?_
      exact Ev.congr (fun k => (if_pos rfl).trans (if_pos rfl)) (Ev.bind knows_is (Ev.now _))
end Go.Proofs.YtidlcpflfokehaaDoor.Pure
