/- The machine side of the laws of one chapter, without conditions: each call of a Go function comes to what the Lean function of its name answers. Written for this claim by a program of the prover. -/
import Derived.Test.YtcicenmmpbgmoaaPx0
import Derived.Test.YtcicenmmpbgmoaaPx2
namespace Go.Proofs.Ytcicenmmpbgmoaa.P
open Go.RowKit Go.Proofs.YtcicenmmpbgmoaaW.PrintWords Go.Proofs.YtcicenmmpbgmoaaW.PrintLast Go.Proofs.YtcicenmmpbgmoaaW.PrintMore
attribute [local go_sem] max2_int min2_int max_two min_two max_three min_three max_four min_four   -- for this text's walks alone
set_option linter.unusedVariables false
set_option linter.unusedSimpArgs false

/-! ### madrigallaw22_sum: function 20 -/
def madrigallaw22_sum.l0 : Nat → List Int → Int → Int → Option (Int)
 | 0,_,_,_ => none
 | k + 1,x0,x3,x4 => if x4 < (x0.length : Int) then (if 0 ≤ x4 then (madrigallaw22_sum.l0 k x0 (wrap64 (x3 + (rd x0 x4))) (wrap64 (x4 + 1))) else (none)) else (some x3)
def madrigallaw22_sum.f (k : Nat) (l0 : List Int) : Option (Int):=madrigallaw22_sum.l0 k l0 0 0
theorem madrigallaw22_sum.mono_l : ∀ k,(∀ y0 y1 y2,LeO (madrigallaw22_sum.l0 k y0 y1 y2) (madrigallaw22_sum.l0 (k + 1) y0 y1 y2))
 | 0 => fun _ _ _ r h => by simp [madrigallaw22_sum.l0] at h
 | k + 1 => by
  have ih0:=madrigallaw22_sum.mono_l k
  all_goals (intros;first|unfold madrigallaw22_sum.l0)
  all_goals (repeat' first|(with_reducible first|exact ih0 _ _ _|exact LeO.refl _|exact LeO.none _|refine LeO.ite ?_ ?_|refine LeO.bind ?_ (fun _ => ?_))|exact ih0 _ _ _|exact LeO.none _|refine LeO.ite ?_ ?_|refine LeO.bind ?_ (fun _ => ?_))
theorem madrigallaw22_sum.mono : ∀ a0 k,LeO (madrigallaw22_sum.f k a0) (madrigallaw22_sum.f (k + 1) a0):=by
 intro a0 k
 have ih0:=madrigallaw22_sum.mono_l k
 unfold madrigallaw22_sum.f
 repeat' first|(with_reducible first|exact ih0 _ _ _|exact LeO.refl _|exact LeO.none _|refine LeO.ite ?_ ?_|refine LeO.bind ?_ (fun _ => ?_))|exact ih0 _ _ _|exact LeO.none _|refine LeO.ite ?_ ?_|refine LeO.bind ?_ (fun _ => ?_)
set_option maxHeartbeats 8000000 in
set_option maxRecDepth 100000 in
theorem madrigallaw22_sum.calls (k : Nat) (A0 : Option Addr) (c0 : Nat) (l0 : List Int) (r : Int) (w : World) (hr0 : Kd.C (Kd.int .i64) w A0 l0.length l0) (hc0 : l0.length ≤ c0) (h : madrigallaw22_sum.f k l0 = some r) :
  Calls Try.prog 20 #[.slice A0 l0.length c0] w fun e w' => e = .returned (.int .i64 r) ∧ Drawn0 w w':=by
 have HR0:=ak_ hr0
 have HC0:=ak_ hc0
 clear hr0 hc0
 have H : (madrigallaw22_sum.l0 k l0 0 0) = some r:=h
 clear h
 have H':=ak_ H
 clear H
 go_enter Try.func20,Try.ntmps20
 go_wp2
 go_loopg [3,4] k (fun kq v3 v4 w' => ∃ (x3_1 : Int) (x4_1 : Int),v3 = .int .i64 x3_1 ∧ v4 = .int .i64 x4_1 ∧ Aside0 (madrigallaw22_sum.l0 kq l0 x3_1 x4_1 = some r) ∧ Aside0 (kq ≤ k) ∧ Drawn0 w w')
 case atStart => exact ⟨(0),(0),(by first|rfl|(simp;done)|(simp [*];done)),(by first|rfl|(simp;done)|(simp [*];done)),H',⟨Nat.le_refl _⟩,by repeat (first|exact Drawn0.refl _|apply Drawn0.step)⟩
 case round =>
  clear H'
  obtain ⟨x3_1,x4_1,rfl,rfl,HA,HK1,⟨m1,rfl⟩⟩:=hrel
  (try simp only [i64_w,i32_w])
  cases gk with
  | zero => exact absurd HA.out (by simp [madrigallaw22_sum.l0])
  | succ k1 =>
   have H:=HA.out
   clear HA
   simp only [madrigallaw22_sum.l0] at H
   by_cases c2 : x4_1 < (l0.length : Int)
   ·rw [if_pos c2] at H
    have c2b0:=decide_eq_true c2
    clear c2
    by_cases c3 : 0 ≤ x4_1
    ·rw [if_pos c3] at H
     have c3b0:=decide_eq_true c3
     clear c3
     have H':=ak_ H
     clear H
     have p183 : 0 ≤ (x4_1 : Int):=of_decide_eq_true (by first|(with_reducible assumption)|assumption)
     have q183 : x4_1 < (l0.length : Int):=of_decide_eq_true (by first|(with_reducible assumption)|assumption)
     obtain ⟨ad183,e183,hx183_0⟩:=Kd.at_int HR0.out x4_1 p183 q183
     cases e183
     replace p183:=eq_true p183
     replace q183:=eq_true q183
     go_wp2
     go_roundg k1
     case measure => have:=HK1.out;omega
     case rel => exact ⟨(wrap64 (x3_1 + (rd l0 x4_1))),(wrap64 (x4_1 + 1)),(by first|rfl|(simp;done)|(simp [*];done)),(by first|rfl|(simp;done)|(simp [*];done)),H',⟨by have:=HK1.out;omega⟩,by repeat (first|exact Drawn0.refl _|apply Drawn0.step)⟩
    ·rw [if_neg c3] at H
     exact absurd H (by simp)
   ·rw [if_neg c2] at H
    have c2b0:=decide_eq_false c2
    clear c2
    obtain rfl:=Option.some.inj H
    go_wp2
    go_ret
    exact ⟨by first|rfl|(simp;done)|(simp [*];done),by repeat (first|exact Drawn0.refl _|apply Drawn0.step)⟩

/-! ### resamp_Sampler_Copy: function 22 -/
def resamp_Sampler_Copy.f (s0_0 : Int) (s0_1 : Int) (s0_2 : List Int) : Option (Int × Int × List Int):=some (s0_0,s0_1,s0_2)
set_option maxHeartbeats 8000000 in
set_option maxRecDepth 100000 in
theorem resamp_Sampler_Copy.calls (g : Nat) (s0_0 : Int) (s0_1 : Int) (s0_2 : List Int) (r1 : Int) (r2 : Int) (r3 : List Int) (w0 w : World) (hI : IsS53 w0 w g s0_0 s0_1 s0_2) (hB : Below w0.heap.size w0 w) (h : resamp_Sampler_Copy.f s0_0 s0_1 s0_2 = some (r1,r2,r3)) :
  Calls Try.prog 22 #[.pointer (some ⟨g,0,none⟩)] w fun e w' => ∃ g_,e = .returned (.pointer (some ⟨g_,0,none⟩)) ∧ IsS53 w0 w' g_ r1 r2 r3 ∧ Below w0.heap.size w0 w' ∧ Below w.heap.size w w' ∧ w.heap.size ≤ g_:=by
 have hu53:=Try.underlying53
 simp only [resamp_Sampler_Copy.f,Option.some.injEq,Prod.mk.injEq] at h
 obtain ⟨rfl,rfl,rfl⟩:=h
 obtain ⟨hb,hg,hl⟩:=hI
 obtain ⟨cs,hcs⟩ : ∃ cs,cs = (Value.int .i64 s0_0 :: Value.int .i64 s0_1 :: List.map (Value.int .i64) s0_2).toArray:=⟨_,rfl⟩
 have hsz : cs.size = 18:=by rw [hcs];simp [hl]
 have hone : cs.all (·.oneCell') = true:=by
  rw [hcs,Array.all_eq_true]
  intro i hi
  have hm : ((Value.int .i64 s0_0 :: Value.int .i64 s0_1 :: List.map (Value.int .i64) s0_2).toArray[i]'hi) ∈ (Value.int .i64 s0_0 :: Value.int .i64 s0_1 :: List.map (Value.int .i64) s0_2).toArray:=Array.getElem_mem hi
  simp only [List.mem_toArray,List.mem_cons,List.mem_map] at hm
  rcases hm with h|h|⟨x,_,h⟩
  ·rw [h];rfl
  ·rw [h];rfl
  ·rw [← h];rfl
 rw [← hcs] at hb
 have HG:=ak_ hb
 have HI:=ak_ (show some (Obj.cells cs 53 (0,0)) = some (.cells (Value.int .i64 s0_0 :: Value.int .i64 s0_1 :: List.map (Value.int .i64) s0_2).toArray 53 (0,0)) by rw [hcs])
 clear hb hcs
 go_enter Try.func22,Try.ntmps22
 go_wp2_with (first|(refine wpList_load_row rfl 53 (.tmp 5) rfl g rfl 53 cs (0,0) _ HG.out Try.underlying53 rfl (by rw [hsz];kernel_rfl) ?_)|((with_reducible refine gate_dst (N:=3) rfl ?_);refine box_event ?hg (N:=3) ?hd (cs:=#[.int .i64 0,.int .i64 0,.int .i64 0,.int .i64 0,.int .i64 0,.int .i64 0,.int .i64 0,.int .i64 0,.int .i64 0,.int .i64 0,.int .i64 0,.int .i64 0,.int .i64 0,.int .i64 0,.int .i64 0,.int .i64 0,.int .i64 0,.int .i64 0]) (t:=53) ?hr ?_;(case hd => rfl);(case hg => rfl);(case hr => first|(go_simp;done)|(go_simp;rfl));intro gb hg_ w1 hbox hb2;have HX:=ak_ hbox;have HY:=ak_ hb2;have HZ:=ak_ hg_;clear hbox hb2 hg_)|(refine wpList_store_row rfl 53 (.tmp 3) (.tmp 6) rfl gb cs rfl rfl 53 _ HX.out (by rw [hsz];kernel_rfl) (by rw [hsz];rfl) hone ?_;obtain ⟨w2,hw2⟩ : ∃ w2,w2 = w1.setRow gb cs:=⟨_,rfl⟩;rw [← hw2];have HW:=ak_ hw2;clear hw2))
 go_ret
 have hge : w.heap.size ≤ gb:=Nat.le_of_eq HZ.out.symm
 have hb1 : Below w.heap.size w w2:=by rw [HW.out];exact below_setRow HY.out hge cs
 exact ⟨_,rfl,⟨by rw [HW.out];exact (setRow_heap w1 gb _ cs 53 (0,0) HX.out).trans HI.out,Nat.le_trans hB.size hge,hl⟩,below_step hB hb1,hb1,hge⟩


end Go.Proofs.Ytcicenmmpbgmoaa.P
