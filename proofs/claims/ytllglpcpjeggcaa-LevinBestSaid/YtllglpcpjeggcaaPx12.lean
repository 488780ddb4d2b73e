/- The machine side of the laws of one chapter, without conditions: each call of a Go function comes to what the Lean function of its name answers. Written for this claim by a program of the prover. -/
import Derived.Test.YtllglpcpjeggcaaPx0
import Derived.Test.YtllglpcpjeggcaaPx1
namespace Go.Proofs.Ytllglpcpjeggcaa.P
open Go.RowKit Go.Proofs.YtllglpcpjeggcaaW.PrintWords Go.Proofs.YtllglpcpjeggcaaW.PrintLast Go.Proofs.YtllglpcpjeggcaaW.PrintMore
attribute [local go_sem] max2_int min2_int max_two min_two max_three min_three max_four min_four   -- for this text's walks alone
set_option linter.unusedVariables false
set_option linter.unusedSimpArgs false

/-! ### levin_Power: function 16 -/
def levin_Power.l0 : Nat → Int → List Int → Int → Int → Option (Int)
 | 0,_,_,_,_ => none
 | k + 1,x3,x10,x11,x12 => if x12 < x11 then (if 0 ≤ x12 then (if x12 < (x10.length : Int) then ((fix_Clamp.f k (rd x10 x12) (-1048576) 1048576).bind fun t239 => (levin_Power.l0 k (wrap64 (x3 + (wrap64 (t239 * t239)))) x10 x11 (wrap64 (x12 + 1)))) else (none)) else (none)) else (some x3)
def levin_Power.f (k : Nat) (l0 : List Int) : Option (Int):=if 0 ≤ (mn (l0.length : Int) 960) then (if (mn (l0.length : Int) 960) ≤ (l0.length : Int) then ((some (l0.take ((mn (l0.length : Int) 960) : Int).toNat : List Int)).bind fun y234 => (levin_Power.l0 k 0 y234 (y234.length : Int) 0)) else (none)) else (none)
theorem levin_Power.mono_l : ∀ k,(∀ y0 y1 y2 y3,LeO (levin_Power.l0 k y0 y1 y2 y3) (levin_Power.l0 (k + 1) y0 y1 y2 y3))
 | 0 => fun _ _ _ _ r h => by simp [levin_Power.l0] at h
 | k + 1 => by
  have ih0:=levin_Power.mono_l k
  all_goals (intros;first|unfold levin_Power.l0)
  all_goals (repeat' first|(with_reducible first|exact ih0 _ _ _ _|exact fix_Clamp.mono _ _ _ _|exact LeO.refl _|exact LeO.none _|refine LeO.ite ?_ ?_|refine LeO.bind ?_ (fun _ => ?_))|exact ih0 _ _ _ _|exact fix_Clamp.mono _ _ _ _|exact LeO.none _|refine LeO.ite ?_ ?_|refine LeO.bind ?_ (fun _ => ?_))
theorem levin_Power.mono : ∀ a0 k,LeO (levin_Power.f k a0) (levin_Power.f (k + 1) a0):=by
 intro a0 k
 have ih0:=levin_Power.mono_l k
 unfold levin_Power.f
 repeat' first|(with_reducible first|exact ih0 _ _ _ _|exact fix_Clamp.mono _ _ _ _|exact LeO.refl _|exact LeO.none _|refine LeO.ite ?_ ?_|refine LeO.bind ?_ (fun _ => ?_))|exact ih0 _ _ _ _|exact fix_Clamp.mono _ _ _ _|exact LeO.none _|refine LeO.ite ?_ ?_|refine LeO.bind ?_ (fun _ => ?_)
set_option maxHeartbeats 8000000 in
set_option maxRecDepth 100000 in
theorem levin_Power.calls (k : Nat) (A0 : Option Addr) (c0 : Nat) (l0 : List Int) (r : Int) (w : World) (hr0 : Kd.C (Kd.int .i64) w A0 l0.length l0) (hc0 : l0.length ≤ c0) (h : levin_Power.f k l0 = some r) :
  Calls Try.prog 16 #[.slice A0 l0.length c0] w fun e w' => e = .returned (.int .i64 r) ∧ Below w.heap.size w w':=by
 have HR0:=ak_ hr0
 have HC0:=ak_ hc0
 clear hr0 hc0
 have HB:=ak_ (Below.refl w.heap.size w)
 have H : (if 0 ≤ (mn (l0.length : Int) 960) then (if (mn (l0.length : Int) 960) ≤ (l0.length : Int) then ((some (l0.take ((mn (l0.length : Int) 960) : Int).toNat : List Int)).bind fun y234 => (levin_Power.l0 k 0 y234 (y234.length : Int) 0)) else (none)) else (none)) = some r:=h
 clear h
 obtain ⟨ji2,hji2⟩ : ∃ j_ : Int,(mn (l0.length : Int) 960) = j_:=⟨_,rfl⟩
 replace H : (if 0 ≤ (ji2) then (if (ji2) ≤ (l0.length : Int) then ((some (l0.take ((ji2) : Int).toNat : List Int)).bind fun y234 => (levin_Power.l0 k 0 y234 (y234.length : Int) 0)) else (none)) else (none)) = some r:=by first|(rw [hji2] at H;exact H)|(simp only [hji2] at H ⊢;exact H)
 (try (have hji2h : ji2 ≤ 960:=by (rw [← hji2];unfold mn;(repeat' split) <;> omega)))
 (try (have hji2g : ji2 ≤ 64:=by omega))
 (try (have hji2l : 0 ≤ ji2:=by (rw [← hji2];unfold mn;(repeat' split) <;> omega)))
 (try (have hji2m : 0 ≤ ji2:=by omega))
 have hji2_ : (if 960 < (l0.length : Int) then 960 else (l0.length : Int)) = ji2:=hji2
 by_cases c3 : 0 ≤ (ji2)
 ·rw [if_pos c3] at H
  have c3b0:=eq_true c3
  have c3b1 : decide (0 ≤ (ji2)) = true:=decide_eq_true c3
  clear c3
  by_cases c4 : (ji2) ≤ (l0.length : Int)
  ·rw [if_pos c4] at H
   have c4b0:=eq_true c4
   have c4b1 : decide ((ji2) ≤ (l0.length : Int)) = true:=decide_eq_true c4
   clear c4
   obtain ⟨y234,hy234⟩ : ∃ y_ : List Int,y_ = (l0.take ((ji2) : Int).toNat):=⟨_,rfl⟩
   replace H : (levin_Power.l0 k 0 y234 (y234.length : Int) 0) = some r:=by first|(rw [hy234];with_reducible exact H)|(have H2_:=(Option.bind_some _ _).symm.trans H;rw [hy234];with_reducible exact H2_)|(have H2_:=(Option.bind_some _ _).symm.trans H;with_reducible exact H2_)|with_reducible exact H|(rw [hy234];exact H)|exact H
   have Ny234:=ak_ hy234
   clear hy234
   have H':=ak_ H
   clear H
   have q5 : ((ji2) : Int) ≤ ((l0.length : Int) : Int):=of_decide_eq_true (by first|(with_reducible assumption)|assumption)
   obtain ⟨i05,hi05,_,hsz5,_⟩:=info_parts info2
   have hroom5 : l0.length ≤ c0:=HC0.out
   have hC5 : Kd.C (Kd.int .i64) _ A0 l0.length l0:=HR0.out
   have hcut5:=cut_to (P:=Try.prog) 23 2 .i64 Try.underlying23 hi05 A0 l0.length c0 (ji2) (of_decide_eq_true (by first|(with_reducible assumption)|assumption)) q5 hroom5
   have hr5:=Kd.C_take (m:=((ji2) : Int).toNat) hC5 (by omega)
   have hy5 : y234.length = ((ji2) : Int).toNat:=(by rw [Ny234.out,List.length_take];omega)
   rw [← Ny234.out] at hr5
   rw [← hy5] at hcut5
   have HR237:=ak_ hr5
   have HC237:=ak_ (show y234.length ≤ c0 from by omega)
   clear hr5 hC5 hroom5 hi05 hsz5
   have KY5:=ak_ hy5
   clear hy5
   replace q5:=eq_true q5
   go_enter Try.func16,Try.ntmps16
   go_wp2
   go_loopg [3,12] k (fun kq v3 v12 w' => ∃ (x3_1 : Int) (x12_1 : Int),v3 = .int .i64 x3_1 ∧ v12 = .int .i64 x12_1 ∧ Aside0 (levin_Power.l0 kq x3_1 y234 (y234.length : Int) x12_1 = some r) ∧ Aside0 (kq ≤ k) ∧ Aside0 (Below w.heap.size w w'))
   case atStart => exact ⟨(0),(0),(by first|rfl|(simp;done)|(simp [*];done)),(by first|rfl|(simp;done)|(simp [*];done)),H',⟨Nat.le_refl _⟩,⟨by repeat (first|(with_reducible first|exact HB.out|apply ba_|apply bb_|apply bc_)|exact HB.out)⟩⟩
   case round =>
    clear H'
    try clear c1
    try clear p2
    try clear c3
    try clear c3b0
    try clear c3b1
    try clear c4
    try clear c4b0
    try clear c4b1
    try clear q5
    try clear q5
    obtain ⟨x3_1,x12_1,rfl,rfl,HA,HK1,HB⟩:=hrel
    (try simp only [i64_w,i32_w])
    cases gk with
    | zero => exact absurd HA.out (by simp [levin_Power.l0])
    | succ k1 =>
     have H:=HA.out
     clear HA
     simp only [levin_Power.l0] at H
     by_cases c6 : x12_1 < (y234.length : Int)
     ·rw [if_pos c6] at H
      have c6b0:=decide_eq_true c6
      clear c6
      by_cases c7 : 0 ≤ x12_1
      ·rw [if_pos c7] at H
       have c7b0:=decide_eq_true c7
       clear c7
       by_cases c8 : x12_1 < (y234.length : Int)
       ·rw [if_pos c8] at H
        have c8b0:=decide_eq_true c8
        clear c8
        replace H:=Option.bind_eq_some_iff.mp H
        obtain ⟨t239,A90,H⟩:=H
        (try dsimp only at H)
        have A9:=ak_ A90
        clear A90
        have H':=ak_ H
        clear H
        have p238 : 0 ≤ (x12_1 : Int):=of_decide_eq_true (by first|(with_reducible assumption)|assumption)
        have q238 : x12_1 < (y234.length : Int):=of_decide_eq_true (by first|(with_reducible assumption)|assumption)
        obtain ⟨ad238,e238,hx238_0⟩:=Kd.at_int HR237.out x12_1 p238 q238
        cases e238
        replace hx238_0:=(HB.out.cell (World.block_lt_of_cell? w _ hx238_0)).trans hx238_0
        replace p238:=eq_true p238
        replace q238:=eq_true q238
        go_wp2_with (first|((with_reducible refine gate_callee (f:=26) rfl ?_);refine goesL_ (some 17) rfl rfl Try.func26 (by kernel_rfl) rfl #[.int .i64 (rd y234 x12_1),.int .i64 (-1048576),.int .i64 1048576] rfl (by (try simp only [List.map_toArray,List.map_cons,List.map_nil]);first|done|rfl|(simp only [List.length_drop,List.length_take];rfl)) ?_;(with_reducible refine (fix_Clamp.calls k1 (rd y234 x12_1) (-1048576) 1048576 t239 _ A9.out).mono ?_);rintro e w' ⟨rfl,⟨nd,rfl⟩⟩;refine ⟨_,rfl,?_⟩))
        go_roundg k1
        case measure => have:=HK1.out;omega
        case rel => exact ⟨(wrap64 (x3_1 + (wrap64 (t239 * t239)))),(wrap64 (x12_1 + 1)),(by first|rfl|(simp;done)|(simp [*];done)),(by first|rfl|(simp;done)|(simp [*];done)),H',⟨by have:=HK1.out;omega⟩,⟨by repeat (first|(with_reducible first|exact HB.out|apply ba_|apply bb_|apply bc_)|exact HB.out)⟩⟩
       ·rw [if_neg c8] at H
        exact absurd H (by simp)
      ·rw [if_neg c7] at H
       exact absurd H (by simp)
     ·rw [if_neg c6] at H
      have c6b0:=decide_eq_false c6
      clear c6
      obtain rfl:=Option.some.inj H
      go_wp2
      go_ret
      exact ⟨by first|rfl|(simp [errW_none,errW_some] <;> rfl)|(simp only [← hji2];first|rfl|(simp [errW_none,errW_some] <;> rfl))|(simp [*,errW_none,errW_some] <;> rfl),by repeat (first|(with_reducible first|exact HB.out|apply ba_|apply bb_|apply bc_)|exact HB.out)⟩
  ·rw [if_neg c4] at H
   exact absurd H (by simp)
 ·rw [if_neg c3] at H
  exact absurd H (by simp)

end Go.Proofs.Ytllglpcpjeggcaa.P
