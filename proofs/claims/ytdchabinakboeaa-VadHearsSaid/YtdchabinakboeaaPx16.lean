/- The machine side of the laws of one chapter, without conditions: each call of a Go function comes to what the Lean function of its name answers. Written for this claim by a program of the prover. -/
import Derived.Test.YtdchabinakboeaaPx0
import Derived.Test.YtdchabinakboeaaPx15
namespace Go.Proofs.Ytdchabinakboeaa.P
open Go.RowKit Go.Proofs.YtdchabinakboeaaW.PrintWords Go.Proofs.YtdchabinakboeaaW.PrintLast Go.Proofs.YtdchabinakboeaaW.PrintMore
attribute [local go_sem] max2_int min2_int max_two min_two max_three min_three max_four min_four   -- for this text's walks alone
set_option linter.unusedVariables false
set_option linter.unusedSimpArgs false

/-- A state of type 31 at block g of W; what its slices lead to came in by w0. -/
def IsS31 (w0 W : World) (g : Nat) (f0 : Int) (f1 : Int) : Prop:=W.heap[g]? = some (.cells #[.int .i64 f0,.int .i64 f1] 31 (0,0)) ∧ w0.heap.size ≤ g
theorem IsS31.grown {w0 W : World} {g : Nat} {f0 : Int} {f1 : Int} {W1 : World} {row : Option Nat} (h : IsS31 w0 W g f0 f1) (hw : W.grownBy W1 row) (hne : some g ≠ row) : IsS31 w0 W1 g f0 f1:=by
 obtain ⟨hb,hg⟩:=h
 exact ⟨blk_grown hb hw hne,hg⟩
theorem IsS31.own_neN {w0 W : World} {g : Nat} {f0 : Int} {f1 : Int} {α : Type} {d : Kd α} {e : Nat} {base : Nat} {ok : Nat → Prop} {v : Value} {xs : List α} (h : IsS31 w0 W g f0 f1) (ho : Kd.N d e W base ok v xs) (ht : e ≠ 31) : some g ≠ v.ownBlock:=by
 obtain ⟨hb,hg⟩:=h
 exact Kd.N_ne ho hb ht
theorem IsS31.fresh {w0 W : World} {g : Nat} {f0 : Int} {f1 : Int} (h : IsS31 w0 W g f0 f1) : ∀ k,W.heap.size ≤ k → k ≠ g:=by
 obtain ⟨hb,hg⟩:=h
 exact Kd.freshB hb
theorem IsS31.kept {w0 W : World} {g : Nat} {f0 : Int} {f1 : Int} {W1 : World} {S : Nat → Prop} (h : IsS31 w0 W g f0 f1) (hk : Kept W W1 S) (hne : ¬ S g) : IsS31 w0 W1 g f0 f1:=by
 obtain ⟨hb,hg⟩:=h
 exact ⟨blk_kept hb hk hne,hg⟩
theorem IsS31.keepB {w0 W : World} {g : Nat} {f0 : Int} {f1 : Int} {W1 : World} {g2 : Nat} (h : IsS31 w0 W g f0 f1) (hk : KeepBut W W1 g2 none) (hne : g ≠ g2) : IsS31 w0 W1 g f0 f1:=by
 obtain ⟨hb,hg⟩:=h
 exact ⟨KeepBut.blk (g:=g2) hk hb hne (by simp),hg⟩
theorem IsS31.below {w0 W : World} {g : Nat} {f0 : Int} {f1 : Int} {W1 : World} (h : IsS31 w0 W g f0 f1) (hw : Below W.heap.size W W1) : IsS31 w0 W1 g f0 f1:=h.grown (grown_of_below hw none) (by simp)
theorem IsS31.alloc {w0 W : World} {g : Nat} {f0 : Int} {f1 : Int} (h : IsS31 w0 W g f0 f1) (o : Obj) : IsS31 w0 (W.alloc o) g f0 f1:=h.below (below_alloc (Below.refl _ _) o)
theorem IsS31.drewN {w0 W : World} {g : Nat} {f0 : Int} {f1 : Int} (h : IsS31 w0 W g f0 f1) (m : Nat) : IsS31 w0 (W.drewN m) g f0 f1:=h
theorem IsS31.drew {w0 W : World} {g : Nat} {f0 : Int} {f1 : Int} (h : IsS31 w0 W g f0 f1) : IsS31 w0 W.drew g f0 f1:=h
theorem IsS31.at_ {w0 W : World} {g : Nat} {f0 : Int} {f1 : Int} {w' : World} {m : Nat} (hq : W.drewN m = w') (h : IsS31 w0 W g f0 f1) : IsS31 w0 w' g f0 f1:=by subst hq;exact IsS31.drewN h m
theorem IsS31.apart {w0 W : World} {g : Nat} {f0 : Int} {f1 : Int} {α : Type} {d : Kd α} {e : Nat} {base : Nat} {ok : Nat → Prop} {v : Value} {xs : List α} (h : IsS31 w0 W g f0 f1) (ho : d.R e W base ok v xs) (ht : ∀ q,q ∈ e :: d.E → q ≠ 31) : d.R e W base (fun k => ok k ∧ k ≠ g) v xs:=by
 obtain ⟨hb,hg⟩:=h
 exact Kd.R_types ho hb ht
theorem IsS31.own_ne {w0 W : World} {g : Nat} {f0 : Int} {f1 : Int} {α : Type} {d : Kd α} {e : Nat} {base : Nat} {ok : Nat → Prop} {v : Value} {xs : List α} (h : IsS31 w0 W g f0 f1) (ho : d.R e W base ok v xs) (ht : e ≠ 31) : some g ≠ v.ownBlock:=by
 obtain ⟨hb,hg⟩:=h
 exact Kd.R_ne ho hb ht
theorem IsS31.apartQ {w0 W : World} {g : Nat} {f0 : Int} {f1 : Int} {α : Type} {d : Kd α} {e : Nat} {base : Nat} {ok : Nat → Prop} {v : Value} {xs : List α} (h : IsS31 w0 W g f0 f1) (ho : d.Q e W base ok v xs) (ht : ∀ q,q ∈ e :: d.E → q ≠ 31) : d.Q e W base (fun k => ok k ∧ k ≠ g) v xs:=by
 obtain ⟨hb,hg⟩:=h
 exact Kd.Q_types ho hb ht
theorem IsS31.own_neQ {w0 W : World} {g : Nat} {f0 : Int} {f1 : Int} {α : Type} {d : Kd α} {e : Nat} {base : Nat} {ok : Nat → Prop} {v : Value} {xs : List α} (h : IsS31 w0 W g f0 f1) (ho : d.Q e W base ok v xs) (ht : e ≠ 31) : some g ≠ v.ownBlock:=by
 obtain ⟨hb,hg⟩:=h
 exact Kd.Q_ne ho hb ht
theorem IsS31.apartS {w0 W : World} {g : Nat} {f0 : Int} {f1 : Int} {α : Type} {d : Kd α} {e : Nat} {base : Nat} {ok : Nat → Prop} {v : Value} {xs : List α} (h : IsS31 w0 W g f0 f1) (ho : d.S e W base ok v xs) (ht : ∀ q,q ∈ e :: d.E → q ≠ 31) : d.S e W base (fun k => ok k ∧ k ≠ g) v xs:=by
 obtain ⟨hb,hg⟩:=h
 exact Kd.S_types ho hb ht
theorem IsS31.own_neS {w0 W : World} {g : Nat} {f0 : Int} {f1 : Int} {α : Type} {d : Kd α} {e : Nat} {base : Nat} {ok : Nat → Prop} {v : Value} {xs : List α} (h : IsS31 w0 W g f0 f1) (ho : d.S e W base ok v xs) (ht : e ≠ 31) : some g ≠ v.ownBlock:=by
 obtain ⟨hb,hg⟩:=h
 exact Kd.S_ne ho hb ht
theorem IsS31.lt {w0 W : World} {g : Nat} {f0 : Int} {f1 : Int} (h : IsS31 w0 W g f0 f1) : g < W.heap.size:=by
 obtain ⟨hb,hg⟩:=h
 exact blk_lt hb
theorem IsS31.ge {w0 W : World} {g : Nat} {f0 : Int} {f1 : Int} (h : IsS31 w0 W g f0 f1) : w0.heap.size ≤ g:=by
 obtain ⟨hb,hg⟩:=h
 exact hg
theorem IsS31.ne_blk {w0 W : World} {g : Nat} {f0 : Int} {f1 : Int} {a : Nat} {cs : Array Value} {t : TypeId} {fr : Nat × Nat} (h : IsS31 w0 W g f0 f1) (hb2 : W.heap[a]? = some (.cells cs t fr)) (ht : t ≠ 31) : g ≠ a:=by
 obtain ⟨hb,hg⟩:=h
 rintro rfl
 rw [hb] at hb2
 injection hb2 with hb2
 injection hb2 with _ ht2
 exact ht ht2.symm
theorem IsS31.far {w0 W : World} {g : Nat} {f0 : Int} {f1 : Int} {p : Addr} (h : IsS31 w0 W g f0 f1) (hne : g ≠ p.block) (u : Value) : IsS31 w0 (W.setCell p u) g f0 f1:=by
 obtain ⟨hb,hg⟩:=h
 exact ⟨blk_far hb hne u,hg⟩
theorem cellS31_0 {W : World} {g : Nat} {f0 : Int} {f1 : Int} (h : W.heap[g]? = some (.cells #[.int .i64 f0,.int .i64 f1] 31 (0,0))) : W.cell? ⟨g,0,none⟩ = some (.int .i64 f0):=(blk_cell h 0).trans rfl
theorem IsS31.set_0 {w0 W : World} {g : Nat} {f0 : Int} {f1 : Int} (h : IsS31 w0 W g f0 f1) (x : Int) : IsS31 w0 (W.setCell ⟨g,0,none⟩ (.int .i64 x)) g x f1:=by
 obtain ⟨hb,hg⟩:=h
 exact ⟨by simpa using blk_set hb 0 (.int .i64 x),hg⟩
theorem cellS31_1 {W : World} {g : Nat} {f0 : Int} {f1 : Int} (h : W.heap[g]? = some (.cells #[.int .i64 f0,.int .i64 f1] 31 (0,0))) : W.cell? ⟨g,1,none⟩ = some (.int .i64 f1):=(blk_cell h 1).trans rfl
theorem IsS31.set_1 {w0 W : World} {g : Nat} {f0 : Int} {f1 : Int} (h : IsS31 w0 W g f0 f1) (x : Int) : IsS31 w0 (W.setCell ⟨g,1,none⟩ (.int .i64 x)) g f0 x:=by
 obtain ⟨hb,hg⟩:=h
 exact ⟨by simpa using blk_set hb 1 (.int .i64 x),hg⟩
theorem IsS31.new (w0 W : World) (f0 : Int) (f1 : Int) (hB : Below w0.heap.size w0 W) : IsS31 w0 (W.alloc (.cells #[.int .i64 f0,.int .i64 f1] 31)) W.heap.size f0 f1:=⟨by simpa using heap_alloc_new W _,hB.size⟩

/-! ### madrigalref6_Meter_Step: function 19 -/
mutual
def madrigalref6_Meter_Step.j0 : Nat → Int → Bool → Int → Int → Option (Bool × Int × Int)
 | 0,_,_,_,_ => none
 | k + 1,x5,x21,x1000,x1001 => if x21 = true then (madrigalref6_Meter_Step.j1 k x5 x5 x1001) else (madrigalref6_Meter_Step.j1 k x5 (wrap64 (x1000 + 8)) x1001)
def madrigalref6_Meter_Step.j1 : Nat → Int → Int → Int → Option (Bool × Int × Int)
 | 0,_,_,_ => none
 | k + 1,x5,x1000,x1001 => if x5 > (wrap64 (x1000 + 512)) then (some (true,x1000,4)) else (if x1001 > 0 then (some (true,x1000,wrap64 (x1001 - 1))) else (some (false,x1000,x1001)))
end
def madrigalref6_Meter_Step.f (k : Nat) (s0_0 : Int) (s0_1 : Int) (l1 : List Int) : Option (Bool × Int × Int):=(madrigalref6_Level.f k l1).bind fun t201 => (if s0_0 < 0 then (madrigalref6_Meter_Step.j0 k t201 true s0_0 s0_1) else (madrigalref6_Meter_Step.j0 k t201 (decide (t201 < (wrap64 (s0_0 + 8)))) s0_0 s0_1))
theorem madrigalref6_Meter_Step.mono_l : ∀ k,(∀ y0 y1 y2 y3,LeO (madrigalref6_Meter_Step.j0 k y0 y1 y2 y3) (madrigalref6_Meter_Step.j0 (k + 1) y0 y1 y2 y3)) ∧ (∀ y0 y1 y2,LeO (madrigalref6_Meter_Step.j1 k y0 y1 y2) (madrigalref6_Meter_Step.j1 (k + 1) y0 y1 y2))
 | 0 => ⟨fun _ _ _ _ r h => by simp [madrigalref6_Meter_Step.j0] at h,fun _ _ _ r h => by simp [madrigalref6_Meter_Step.j1] at h⟩
 | k + 1 => by
  obtain ⟨ih0,ih1⟩:=madrigalref6_Meter_Step.mono_l k
  refine ⟨?_,?_⟩
  all_goals (intros;first|unfold madrigalref6_Meter_Step.j0|unfold madrigalref6_Meter_Step.j1)
  all_goals (repeat' first|(with_reducible first|exact ih0 _ _ _ _|exact ih1 _ _ _|exact madrigalref6_Level.mono _ _|exact LeO.refl _|exact LeO.none _|refine LeO.ite ?_ ?_|refine LeO.bind ?_ (fun _ => ?_))|exact ih0 _ _ _ _|exact ih1 _ _ _|exact madrigalref6_Level.mono _ _|exact LeO.none _|refine LeO.ite ?_ ?_|refine LeO.bind ?_ (fun _ => ?_))
theorem madrigalref6_Meter_Step.mono : ∀ a0 a1 a2 k,LeO (madrigalref6_Meter_Step.f k a0 a1 a2) (madrigalref6_Meter_Step.f (k + 1) a0 a1 a2):=by
 intro a0 a1 a2 k
 obtain ⟨ih0,ih1⟩:=madrigalref6_Meter_Step.mono_l k
 unfold madrigalref6_Meter_Step.f
 repeat' first|(with_reducible first|exact ih0 _ _ _ _|exact ih1 _ _ _|exact madrigalref6_Level.mono _ _|exact LeO.refl _|exact LeO.none _|refine LeO.ite ?_ ?_|refine LeO.bind ?_ (fun _ => ?_))|exact ih0 _ _ _ _|exact ih1 _ _ _|exact madrigalref6_Level.mono _ _|exact LeO.none _|refine LeO.ite ?_ ?_|refine LeO.bind ?_ (fun _ => ?_)
set_option maxHeartbeats 8000000 in
set_option maxRecDepth 100000 in
theorem madrigalref6_Meter_Step.calls (k : Nat) (g : Nat) (s0_0 : Int) (s0_1 : Int) (P1_ : Nat → Prop) (A1 : Option Addr) (c1 : Nat) (l1 : List Int) (r1 : Bool) (r2 : Int) (r3 : Int) (w0 w : World) (hI : IsS31 w0 w g s0_0 s0_1) (hB : Below w0.heap.size w0 w) (hs1 : Kd.V (Kd.int .i64) 2 w w.heap.size (fun k_ => P1_ k_ ∧ k_ ≠ g) (.slice A1 l1.length c1) l1) (h : madrigalref6_Meter_Step.f k s0_0 s0_1 l1 = some (r1,r2,r3)) :
  Calls Try.prog 19 #[.pointer (some ⟨g,0,none⟩),.slice A1 l1.length c1] w fun e w' => e = .returned (.bool r1) ∧ IsS31 w0 w' g r2 r3 ∧ Below w0.heap.size w0 w' ∧ KeepBut w w' g none:=by
 have HO1:=ak_ (show Kd.V (Kd.int .i64) 2 w w.heap.size (fun k_ => (P1_ k_ ∨ w.heap.size ≤ k_) ∧ k_ ≠ g) (.slice A1 l1.length c1) l1 from Kd.V_mono hs1 (fun k_ hk => ⟨.inl hk.1,hk.2⟩))
 have HI0:=ak_ hI
 have HK:=ak_ (KeepBut.refl w g none)
 have HL:=ak_ hB.size
 clear hI
 have HW0:=ak_ hB.size
 have HB:=ak_ hB
 clear hB
 have H : ((madrigalref6_Level.f k l1).bind fun t201 => (if s0_0 < 0 then (madrigalref6_Meter_Step.j0 k t201 true s0_0 s0_1) else (madrigalref6_Meter_Step.j0 k t201 (decide (t201 < (wrap64 (s0_0 + 8)))) s0_0 s0_1))) = some (r1,r2,r3):=h
 clear h
 replace H:=Option.bind_eq_some_iff.mp H
 obtain ⟨t201,A30,H⟩:=H
 (try dsimp only at H)
 have A3:=ak_ A30
 clear A30
 have HC4:=ak_ H
 clear H
 go_enter Try.func19,Try.ntmps19
 go_upto_region 2 with (first|((with_reducible refine gate_callee (f:=18) rfl ?_);refine goesL_ (some 7) rfl rfl Try.func18 (by kernel_rfl) rfl #[.slice A1 l1.length c1] rfl (by (try simp only [List.map_toArray,List.map_cons,List.map_nil]);first|done|rfl|(simp only [List.length_drop,List.length_take];rfl)) ?_;(with_reducible refine (madrigalref6_Level.calls k (fun k_ => ((P1_ k_ ∨ w.heap.size ≤ k_) ∧ k_ ≠ g)) _ _ l1 t201 _ ?side1 A3.out).mono ?_);(case side1 => exact HO1.out);rintro e w5 ⟨rfl,hb⟩;refine ⟨_,rfl,?_⟩;have n0_:=ak_ (Kd.V_below (by (with_reducible repeat (first|apply Kd.V_alloc|apply Kd.V_drewN|apply Kd.V_drew));exact HO1.out) hb);have n1_:=ak_ (IsS31.below (by repeat (first|(with_reducible first|exact HI0.out|apply IsS31.alloc|apply IsS31.drewN|apply IsS31.drew|apply IsS31.set_0|apply IsS31.set_1)|exact HI0.out)) hb);have n2_:=ak_ (KeepBut.trans (by repeat (first|(with_reducible first|exact HK.out|apply KeepBut.set_|apply keep_drewN|apply keep_drew|apply keep_alloc)|exact HK.out)) (KeepBut.of_below hb g none) (.inl rfl));have n3_:=ak_ (below_step (by repeat (first|(with_reducible first|exact HB.out|apply ba_|apply bb_|apply bc_|refine below_set ?_ (IsS31.ge HI0.out))|exact HB.out)) hb);clear HO1;clear HI0;clear HK;clear HB;have HO1:=n0_;have HI0:=n1_;have HK:=n2_;have HB:=n3_;clear n0_ n1_ n2_ n3_;(try clear hb)))
 (try simp only [Act.put,List.setIfInBounds_toArray,List.set_cons_zero,List.set_cons_succ])
 go_cut [21] (fun v21 wc => ∃ (kq : Nat) (x21_3 : Bool),v21 = .bool x21_3 ∧ Aside0 (madrigalref6_Meter_Step.j0 kq t201 x21_3 s0_0 s0_1 = some (r1,r2,r3)) ∧ Aside0 (kq ≤ k) ∧ Aside0 (IsS31 w0 wc g s0_0 s0_1) ∧ Aside0 (KeepBut w wc g none) ∧ Aside0 (Below w0.heap.size w0 wc))
 case first =>
  have H:=HC4.out
  clear HC4
  by_cases c6 : s0_0 < 0
  ·rw [if_pos c6] at H
   have c6b0:=decide_eq_true c6
   clear c6
   (first|rw [c6b0]|(simp only [i64_w,i32_w];rw [c6b0])|skip)
   have H':=ak_ H
   clear H
   obtain ⟨HGz7,hgz7⟩:=HI0.out
   have hcz7_0:=cellS31_0 HGz7
   have hcz7_1:=cellS31_1 HGz7
   have hfz7_0:=blk_frozen HGz7 0
   have hfz7_1:=blk_frozen HGz7 1
   clear HGz7 hgz7
   go_wp2
   refine Met.intro ?_
   go_step
   (repeat apply Exists.intro)
   first|refine ⟨?rel130,rfl⟩|(refine ⟨?rel130,?st130⟩;case' st130 => (first|rw [c6b0]|simp only [c6b0]))
   case rel130 => exact ⟨_,(true),(by first|rfl|(simp;done)|(simp [*];done)),H',⟨by first|omega|exact Nat.le_refl _⟩,⟨by repeat (first|(with_reducible first|exact HI0.out|apply IsS31.alloc|apply IsS31.drewN|apply IsS31.drew|apply IsS31.set_0|apply IsS31.set_1)|exact HI0.out)⟩,⟨by repeat (first|(with_reducible first|exact HK.out|apply KeepBut.set_|apply keep_drewN|apply keep_drew|apply keep_alloc)|exact HK.out)⟩,⟨by repeat (first|(with_reducible first|exact HB.out|apply ba_|apply bb_|apply bc_|refine below_set ?_ (IsS31.ge HI0.out))|exact HB.out)⟩⟩
  ·rw [if_neg c6] at H
   have c6b0:=decide_eq_false c6
   clear c6
   (first|rw [c6b0]|(simp only [i64_w,i32_w];rw [c6b0])|skip)
   have H':=ak_ H
   clear H
   obtain ⟨HGz8,hgz8⟩:=HI0.out
   have hcz8_0:=cellS31_0 HGz8
   have hcz8_1:=cellS31_1 HGz8
   have hfz8_0:=blk_frozen HGz8 0
   have hfz8_1:=blk_frozen HGz8 1
   clear HGz8 hgz8
   go_wp2
   refine Met.intro ?_
   go_step
   (repeat apply Exists.intro)
   first|refine ⟨?rel145,rfl⟩|(refine ⟨?rel145,?st145⟩;case' st145 => (first|rw [c6b0]|simp only [c6b0]))
   case rel145 => exact ⟨_,(decide (t201 < (wrap64 (s0_0 + 8)))),(by first|rfl|(simp;done)|(simp [*];done)),H',⟨by first|omega|exact Nat.le_refl _⟩,⟨by repeat (first|(with_reducible first|exact HI0.out|apply IsS31.alloc|apply IsS31.drewN|apply IsS31.drew|apply IsS31.set_0|apply IsS31.set_1)|exact HI0.out)⟩,⟨by repeat (first|(with_reducible first|exact HK.out|apply KeepBut.set_|apply keep_drewN|apply keep_drew|apply keep_alloc)|exact HK.out)⟩,⟨by repeat (first|(with_reducible first|exact HB.out|apply ba_|apply bb_|apply bc_|refine below_set ?_ (IsS31.ge HI0.out))|exact HB.out)⟩⟩
 case rest =>
  clear HC4
  try clear c1
  try clear p2
  try clear c6
  try clear c6b0
  try clear p6
  try clear hcz7_0
  try clear hcz7_1
  try clear hcz8_0
  try clear hcz8_1
  try clear hfz7_0
  try clear hfz7_1
  try clear hfz8_0
  try clear hfz8_1
  obtain ⟨kq,x21_3,rfl,HA,HJ3,HI0,HK,HB⟩:=hcut
  (try simp only [i64_w,i32_w])
  cases kq with
  | zero => exact absurd HA.out (by simp [madrigalref6_Meter_Step.j0])
  | succ kj3 =>
   have H:=HA.out
   clear HA
   simp only [madrigalref6_Meter_Step.j0] at H
   have HC9:=ak_ H
   clear H
   go_upto_if 21 with (fail)
   go_cut [] (fun wc => ∃ (kq : Nat) (x1000_8 : Int),Aside0 (madrigalref6_Meter_Step.j1 kq t201 x1000_8 s0_1 = some (r1,r2,r3)) ∧ Aside0 (kq ≤ kj3) ∧ Aside0 (IsS31 w0 wc g x1000_8 s0_1) ∧ Aside0 (KeepBut w wc g none) ∧ Aside0 (Below w0.heap.size w0 wc))
   case first =>
    have H:=HC9.out
    clear HC9
    by_cases c10 : x21_3 = true
    ·subst c10
     have H1 : (madrigalref6_Meter_Step.j1 kj3 t201 t201 s0_1) = some (r1,r2,r3):=by rw [if_pos rfl] at H;exact H
     clear H
     have H:=H1
     clear H1
     have H':=ak_ H
     clear H
     obtain ⟨HGz11,hgz11⟩:=HI0.out
     have hcz11_0:=cellS31_0 HGz11
     have hcz11_1:=cellS31_1 HGz11
     have hfz11_0:=blk_frozen HGz11 0
     have hfz11_1:=blk_frozen HGz11 1
     clear HGz11 hgz11
     go_wp2
     go_meet
     case rel => exact ⟨_,(t201),H',⟨by have:=HJ3.out;first|omega|exact Nat.le_refl _⟩,⟨by repeat (first|(with_reducible first|exact HI0.out|apply IsS31.alloc|apply IsS31.drewN|apply IsS31.drew|apply IsS31.set_0|apply IsS31.set_1)|exact HI0.out)⟩,⟨by repeat (first|(with_reducible first|exact HK.out|apply KeepBut.set_|apply keep_drewN|apply keep_drew|apply keep_alloc)|exact HK.out)⟩,⟨by repeat (first|(with_reducible first|exact HB.out|apply ba_|apply bb_|apply bc_|refine below_set ?_ (IsS31.ge HI0.out))|exact HB.out)⟩⟩
    ·replace c10:=Bool.eq_false_iff.mpr c10
     subst c10
     have H1 : (madrigalref6_Meter_Step.j1 kj3 t201 (wrap64 (s0_0 + 8)) s0_1) = some (r1,r2,r3):=by rw [if_neg (show ¬ (false = true) by decide)] at H;exact H
     clear H
     have H:=H1
     clear H1
     have H':=ak_ H
     clear H
     obtain ⟨HGz12,hgz12⟩:=HI0.out
     have hcz12_0:=cellS31_0 HGz12
     have hcz12_1:=cellS31_1 HGz12
     have hfz12_0:=blk_frozen HGz12 0
     have hfz12_1:=blk_frozen HGz12 1
     clear HGz12 hgz12
     go_wp2
     go_meet
     case rel => exact ⟨_,(wrap64 (s0_0 + 8)),H',⟨by have:=HJ3.out;first|omega|exact Nat.le_refl _⟩,⟨by repeat (first|(with_reducible first|exact HI0.out|apply IsS31.alloc|apply IsS31.drewN|apply IsS31.drew|apply IsS31.set_0|apply IsS31.set_1)|exact HI0.out)⟩,⟨by repeat (first|(with_reducible first|exact HK.out|apply KeepBut.set_|apply keep_drewN|apply keep_drew|apply keep_alloc)|exact HK.out)⟩,⟨by repeat (first|(with_reducible first|exact HB.out|apply ba_|apply bb_|apply bc_|refine below_set ?_ (IsS31.ge HI0.out))|exact HB.out)⟩⟩
   case rest =>
    clear HC9
    try clear c1
    try clear p2
    try clear c6
    try clear c6b0
    try clear p6
    try clear c10
    try clear hcz11_0
    try clear hcz11_1
    try clear hcz12_0
    try clear hcz12_1
    try clear hcz7_0
    try clear hcz7_1
    try clear hcz8_0
    try clear hcz8_1
    try clear hfz11_0
    try clear hfz11_1
    try clear hfz12_0
    try clear hfz12_1
    try clear hfz7_0
    try clear hfz7_1
    try clear hfz8_0
    try clear hfz8_1
    try clear p2
    try clear p6
    obtain ⟨kq,x1000_8,HA,HJ8,HI0,HK,HB⟩:=hcut
    (try simp only [i64_w,i32_w])
    cases kq with
    | zero => exact absurd HA.out (by simp [madrigalref6_Meter_Step.j1])
    | succ kj8 =>
     have H:=HA.out
     clear HA
     simp only [madrigalref6_Meter_Step.j1] at H
     by_cases c13 : t201 > (wrap64 (x1000_8 + 512))
     ·rw [if_pos c13] at H
      have c13b0 : decide ((wrap64 (x1000_8 + 512)) < t201) = true:=decide_eq_true c13
      clear c13
      simp only [Option.some.injEq,Prod.mk.injEq] at H
      obtain ⟨rfl,rfl,rfl⟩:=H
      obtain ⟨HGz14,hgz14⟩:=HI0.out
      have hcz14_0:=cellS31_0 HGz14
      have hcz14_1:=cellS31_1 HGz14
      have hfz14_0:=blk_frozen HGz14 0
      have hfz14_1:=blk_frozen HGz14 1
      clear HGz14 hgz14
      go_wp2
      go_ret
      exact ⟨by first|rfl|(simp [errW_none,errW_some] <;> rfl)|(simp [*,errW_none,errW_some] <;> rfl),by repeat (first|(with_reducible first|exact HI0.out|apply IsS31.alloc|apply IsS31.drewN|apply IsS31.drew|apply IsS31.set_0|apply IsS31.set_1)|exact HI0.out),by repeat (first|(with_reducible first|exact HB.out|apply ba_|apply bb_|apply bc_|refine below_set ?_ (IsS31.ge HI0.out))|exact HB.out),by repeat (first|(with_reducible first|exact HK.out|apply KeepBut.set_|apply keep_drewN|apply keep_drew|apply keep_alloc)|exact HK.out)⟩
     ·rw [if_neg c13] at H
      have c13b0 : decide ((wrap64 (x1000_8 + 512)) < t201) = false:=decide_eq_false c13
      clear c13
      by_cases c15 : s0_1 > 0
      ·rw [if_pos c15] at H
       have c15b0 : decide (0 < s0_1) = true:=decide_eq_true c15
       clear c15
       simp only [Option.some.injEq,Prod.mk.injEq] at H
       obtain ⟨rfl,rfl,rfl⟩:=H
       obtain ⟨HGz16,hgz16⟩:=HI0.out
       have hcz16_0:=cellS31_0 HGz16
       have hcz16_1:=cellS31_1 HGz16
       have hfz16_0:=blk_frozen HGz16 0
       have hfz16_1:=blk_frozen HGz16 1
       clear HGz16 hgz16
       go_wp2
       go_ret
       exact ⟨by first|rfl|(simp [errW_none,errW_some] <;> rfl)|(simp [*,errW_none,errW_some] <;> rfl),by repeat (first|(with_reducible first|exact HI0.out|apply IsS31.alloc|apply IsS31.drewN|apply IsS31.drew|apply IsS31.set_0|apply IsS31.set_1)|exact HI0.out),by repeat (first|(with_reducible first|exact HB.out|apply ba_|apply bb_|apply bc_|refine below_set ?_ (IsS31.ge HI0.out))|exact HB.out),by repeat (first|(with_reducible first|exact HK.out|apply KeepBut.set_|apply keep_drewN|apply keep_drew|apply keep_alloc)|exact HK.out)⟩
      ·rw [if_neg c15] at H
       have c15b0 : decide (0 < s0_1) = false:=decide_eq_false c15
       clear c15
       simp only [Option.some.injEq,Prod.mk.injEq] at H
       obtain ⟨rfl,rfl,rfl⟩:=H
       obtain ⟨HGz17,hgz17⟩:=HI0.out
       have hcz17_0:=cellS31_0 HGz17
       have hcz17_1:=cellS31_1 HGz17
       have hfz17_0:=blk_frozen HGz17 0
       have hfz17_1:=blk_frozen HGz17 1
       clear HGz17 hgz17
       go_wp2
       go_ret
       exact ⟨by first|rfl|(simp [errW_none,errW_some] <;> rfl)|(simp [*,errW_none,errW_some] <;> rfl),by repeat (first|(with_reducible first|exact HI0.out|apply IsS31.alloc|apply IsS31.drewN|apply IsS31.drew|apply IsS31.set_0|apply IsS31.set_1)|exact HI0.out),by repeat (first|(with_reducible first|exact HB.out|apply ba_|apply bb_|apply bc_|refine below_set ?_ (IsS31.ge HI0.out))|exact HB.out),by repeat (first|(with_reducible first|exact HK.out|apply KeepBut.set_|apply keep_drewN|apply keep_drew|apply keep_alloc)|exact HK.out)⟩

end Go.Proofs.Ytdchabinakboeaa.P
