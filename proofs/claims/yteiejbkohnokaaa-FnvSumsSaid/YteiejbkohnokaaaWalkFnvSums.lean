/- The walk of the law FnvSums: it returns true for each word and each two texts; below its own memory the world stays as it was. -/
import Derived.Test.YteiejbkohnokaaaRefFlow
namespace Go.Proofs.Yteiejbkohnokaaa.WalkFnvSums
open Go.RowKit Go.Proofs.YteiejbkohnokaaaW.PrintWords Go.Proofs.YteiejbkohnokaaaW.PrintLast Go.Proofs.YteiejbkohnokaaaW.PrintMore Go.Proofs.Yteiejbkohnokaaa.FnvMath Go.Proofs.Yteiejbkohnokaaa.FnvCalls Go.Proofs.Yteiejbkohnokaaa.FlowCalls Go.Proofs.Yteiejbkohnokaaa.SumsIs Go.Proofs.Yteiejbkohnokaaa.RefFlow

set_option maxHeartbeats 400000 in
theorem big (h : Int) (s t : ByteArray) (w : World) (hb : decide ((65536 : Int) < (s.size : Int)) = true) :
    Calls Try.prog 6 #[.int .u64 h, .string s, .string t] w fun e w' => e = .returned (.bool true) ∧ Below w.heap.size w w' := by
  go_enter Try.func6, Try.ntmps6
  go_wp2_with (go_at_call 14; refine (awake_any _).mono ?_; rintro e w' ⟨rfl, ⟨nd, rfl⟩⟩)
  go_ret
  exact ⟨rfl, by repeat (first | exact Below.refl _ _ | apply pw_below_drewN | apply below_drew)⟩
set_option maxHeartbeats 400000 in
theorem big2 (h : Int) (s t : ByteArray) (w : World) (hb : decide ((65536 : Int) < (s.size : Int)) = false) (hb2 : decide ((65536 : Int) < (t.size : Int)) = true) :
    Calls Try.prog 6 #[.int .u64 h, .string s, .string t] w fun e w' => e = .returned (.bool true) ∧ Below w.heap.size w w' := by
  go_enter Try.func6, Try.ntmps6
  go_wp2_with (go_at_call 14; refine (awake_any _).mono ?_; rintro e w' ⟨rfl, ⟨nd, rfl⟩⟩)
  go_ret
  exact ⟨rfl, by repeat (first | exact Below.refl _ _ | apply pw_below_drewN | apply below_drew)⟩

set_option maxHeartbeats 2000000 in
theorem walk (h : Int) (s t : ByteArray) (w : World) (h0 : 0 ≤ h) (h1 : h < 18446744073709551616) (hs : s.size ≤ 65536) (ht : t.size ≤ 65536) :
    Calls Try.prog 6 #[.int .u64 h, .string s, .string t] w fun e w' => e = .returned (.bool true) ∧ Below w.heap.size w w' := by
  have hb : decide ((65536 : Int) < (s.size : Int)) = false := decide_eq_false (by omega)
  have hb2 : decide ((65536 : Int) < (t.size : Int)) = false := decide_eq_false (by omega)
  have c1 := Aside0.mk (fun w => sum_any s (by omega) w)
  have c2 := Aside0.mk (fun w => ref_sum_any s (by omega) w)
  have c3 := Aside0.mk (fun w => more_any h h0 h1 s (by omega) w)
  have c4 := Aside0.mk (fun w => ref_more_any h h0 h1 s (by omega) w)
  have c5 := Aside0.mk (fun w => flow_any s t (by omega) (by omega) w)
  have c6 := Aside0.mk (fun w => ref_flow_any s t hs ht w)
  generalize SI s = x at c1 c2
  generalize HI h s = y at c3 c4
  generalize FI s t = z at c5 c6
  clear hs ht h0 h1
  go_enter Try.func6, Try.ntmps6
  go_wp2_with fail
  refine (awake_any _).mono ?_
  rintro e w0 ⟨rfl, hd⟩
  have HB0 := Aside0.mk hd.below
  clear hd
  go_wp2_with fail
  refine (c1.out _).mono ?_
  rintro e w1 ⟨rfl, hd⟩
  have HB1 := Aside0.mk (below_step HB0.out hd.below)
  clear hd HB0
  go_wp2_with fail
  refine (c2.out _).mono ?_
  rintro e w2 ⟨rfl, hd⟩
  have HB2 := Aside0.mk (below_step HB1.out hd.below)
  clear hd HB1
  go_wp2_with fail
  refine (c3.out _).mono ?_
  rintro e w3 ⟨rfl, hd⟩
  have HB3 := Aside0.mk (below_step HB2.out hd.below)
  clear hd HB2
  go_wp2_with fail
  refine (c4.out _).mono ?_
  rintro e w4 ⟨rfl, hd⟩
  have HB4 := Aside0.mk (below_step HB3.out hd.below)
  clear hd HB3
  go_wp2_with fail
  refine (c5.out _).mono ?_
  rintro e w5 ⟨rfl, hd⟩
  have HB5 := Aside0.mk (below_step HB4.out hd)
  clear hd HB4
  go_wp2_with fail
  refine (c6.out _).mono ?_
  rintro e w6 ⟨rfl, hd⟩
  have HB6 := Aside0.mk (below_step HB5.out hd)
  clear hd HB5
  go_wp2_with fail
  go_ret
  exact ⟨rfl, HB6.out⟩

theorem law (h : Int) (s t : ByteArray) (w : World) (hw : (Lit.int .u64 h).wf = true) :
    Calls Try.prog 6 #[.int .u64 h, .string s, .string t] w fun e w' => e = .returned (.bool true) ∧ Below w.heap.size w w' := by
  have r := wf_u64 hw
  by_cases a : (65536 : Int) < (s.size : Int)
  · exact big h s t w (decide_eq_true a)
  by_cases b : (65536 : Int) < (t.size : Int)
  · exact big2 h s t w (decide_eq_false a) (decide_eq_true b)
  exact walk h s t w r.1 r.2 (by omega) (by omega)
end Go.Proofs.Yteiejbkohnokaaa.WalkFnvSums
