/- The machine side of the laws of one chapter, without conditions: each call of a Go function comes to what the Lean function of its name answers. Written for this claim by a program of the prover. -/
import Derived.Test.YtdchabinakboeaaPx0
import Derived.Test.YtdchabinakboeaaPx2
namespace Go.Proofs.Ytdchabinakboeaa.P
open Go.RowKit Go.Proofs.YtdchabinakboeaaW.PrintWords Go.Proofs.YtdchabinakboeaaW.PrintLast Go.Proofs.YtdchabinakboeaaW.PrintMore
attribute [local go_sem] max2_int min2_int max_two min_two max_three min_three max_four min_four   -- for this text's walks alone
set_option linter.unusedVariables false
set_option linter.unusedSimpArgs false

/-! ### fix_Len: function 49 -/
def fix_Len.f (k : Nat) (a0 : Int) : Option (Int):=if a0 ≤ 0 then (some 0) else ((bits_Len64.f k (IntKind.u64.wrap (a0))).bind fun t102 => (some t102))
theorem fix_Len.mono : ∀ a0 k,LeO (fix_Len.f k a0) (fix_Len.f (k + 1) a0):=by
 intro a0 k
 unfold fix_Len.f
 repeat' first|(with_reducible first|exact bits_Len64.mono _ _|exact LeO.refl _|exact LeO.none _|refine LeO.ite ?_ ?_|refine LeO.bind ?_ (fun _ => ?_))|exact bits_Len64.mono _ _|exact LeO.none _|refine LeO.ite ?_ ?_|refine LeO.bind ?_ (fun _ => ?_)
set_option maxHeartbeats 8000000 in
set_option maxRecDepth 100000 in
theorem fix_Len.calls (k : Nat) (a0 : Int) (r : Int) (w : World) (h : fix_Len.f k a0 = some r) :
  Calls Try.prog 49 #[.int .i64 a0] w fun e w' => e = .returned (.int .i64 r) ∧ Drawn0 w w':=by
 have H : (if a0 ≤ 0 then (some 0) else ((bits_Len64.f k (IntKind.u64.wrap (a0))).bind fun t102 => (some t102))) = some r:=h
 clear h
 by_cases c2 : a0 ≤ 0
 ·rw [if_pos c2] at H
  have c2b0:=decide_eq_true c2
  clear c2
  obtain rfl:=Option.some.inj H
  go_enter Try.func49,Try.ntmps49
  go_wp2
  go_ret
  exact ⟨by first|rfl|(simp;done)|(simp [*];done),by repeat (first|exact Drawn0.refl _|apply Drawn0.step)⟩
 ·rw [if_neg c2] at H
  have c2b0:=decide_eq_false c2
  clear c2
  replace H:=Option.bind_eq_some_iff.mp H
  obtain ⟨t102,A30,H⟩:=H
  (try dsimp only at H)
  have A3:=ak_ A30
  clear A30
  obtain rfl:=Option.some.inj H
  go_enter Try.func49,Try.ntmps49
  go_wp2_with (first|((with_reducible refine gate_callee (f:=52) rfl ?_);refine goesL_ (some 7) rfl rfl Try.func52 (by kernel_rfl) rfl #[.int .u64 (IntKind.u64.wrap (a0))] rfl (by (try simp only [List.map_toArray,List.map_cons,List.map_nil]);first|done|rfl|(simp only [List.length_drop,List.length_take];rfl)) ?_;(with_reducible refine (bits_Len64.calls k (IntKind.u64.wrap (a0)) t102 _ A3.out).mono ?_);rintro e w' ⟨rfl,⟨nd,rfl⟩⟩;refine ⟨_,rfl,?_⟩))
  go_ret
  exact ⟨by first|rfl|(simp;done)|(simp [*];done),by repeat (first|exact Drawn0.refl _|apply Drawn0.step)⟩

end Go.Proofs.Ytdchabinakboeaa.P
