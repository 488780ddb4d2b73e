/- The machine side of the laws of one chapter, without conditions: each call of a Go function comes to what the Lean function of its name answers. Written for this claim by a program of the prover. -/
import Derived.Test.YtlmacbiahofmcaaPx0
import Derived.Test.YtlmacbiahofmcaaPx13
namespace Go.Proofs.Ytlmacbiahofmcaa.P
open Go.RowKit Go.Proofs.YtlmacbiahofmcaaW.PrintWords Go.Proofs.YtlmacbiahofmcaaW.PrintLast Go.Proofs.YtlmacbiahofmcaaW.PrintMore
attribute [local go_sem] max2_int min2_int max_two min_two max_three min_three max_four min_four   -- for this text's walks alone
set_option linter.unusedVariables false
set_option linter.unusedSimpArgs false

/-! ### slices_Clone_int64_int64: function 37 -/
def slices_Clone_int64_int64.f (l0 : List Int) : Option (List Int):=if l0.length < 17592186044416 then some l0 else none
set_option maxHeartbeats 8000000 in
set_option maxRecDepth 100000 in
theorem slices_Clone_int64_int64.calls (A0 : Option Addr) (c0 : Nat) (l0 : List Int) (r1 : List Int) (w : World) (hr0 : Kd.C (Kd.int .i64) w A0 l0.length l0) (hc0 : l0.length ≤ c0) (h : slices_Clone_int64_int64.f l0 = some r1) :
  Calls Try.prog 37 #[.slice A0 l0.length c0] w fun e w' => ∃ v0_ : Value,e = .returned v0_ ∧ Kd.R (Kd.int .i64) 2 w' w.heap.size (fun _ => True) v0_ r1 ∧ Below w.heap.size w w':=by
 unfold slices_Clone_int64_int64.f at h
 by_cases h0 : l0.length < 17592186044416
 case neg => simp [h0] at h
 simp only [h0,if_true,Option.some.injEq] at h
 subst h
 have HC:=ak_ hr0
 have q22 : ∀ (w : World) (a : Option Addr) (n c : Nat),(binOp .eql 23 (.slice a n c) (.slice none 0 0)).run Try.prog w = .ok (.bool a.isNone) w:=fun w a n c => by
  have h1 : ∀ d : Nat,(Op.equalIn (d + 1) 23 (.slice a n c) (.slice none 0 0)).run Try.prog w = .ok a.isNone w:=fun d => by cases a <;> simp [Op.equalIn,run_underlying Try.underlying23]
  have h2 : (Op.equal 23 (.slice a n c) (.slice none 0 0)).run Try.prog w = .ok a.isNone w:=h1 9999
  simp only [binOp]
  simp [h2]
 cases A0 with
 | none =>
  obtain rfl : l0 = []:=by
   cases l0 with
   | nil => rfl
   | cons x l => obtain ⟨ad,e,_⟩:=hr0.2.2 (by simp);simp at e
  clear hr0 HC
  go_enter Try.func37,Try.ntmps37
  go_wp2
  go_ret
  exact ⟨_,rfl,Kd.R_nil _ _ _ _ _,Below.refl _ _⟩
 | some ad =>
  clear hr0
  have hu23:=Try.underlying23
  go_enter Try.func37,Try.ntmps37
  go_wp2_with (first|((with_reducible refine gate_dst (N:=5) rfl ?_);refine Kd.R_lit (Kd.int .i64) _ 2 ?hg (N:=5) ?hd (xs:=([] : List Int)) (inner:=[]) (ok:=fun _ => True) (okp:=fun _ => True) ?hr ?hp (fun _ hk => hk) trivial (Below.refl _ _) (Nat.le_refl _) (by simp) ?_;(case hd => rfl);(case hg => rfl);(case hr => first|(go_simp;done)|(go_simp;rfl));(case hp => exact (Reps.none _ _));intro v6 w6 ho6 hb6 hg_ hnew_;clear hg_ hnew_;have HM:=ak_ ho6;have HN:=ak_ hb6;clear ho6 hb6)|((with_reducible refine gate_builtin (b:=.append) (xs:=#[.tmp 5,.tmp 6]) rfl ?_);at_builtin;refine Kd.R_append_rows (Kd.int .i64) w.heap.size rfl (.tmp 5) (.tmp 6) 23 2 (.int .i64 0) 8 rfl Try.underlying23 info2 rfl (by decide) (by omega) v6 [] l0 _ _ _ (fun _ => True) (fun _ => False) rfl rfl ?aO ?aR (fun _ _ h => h) (fun _ h => h.elim) (fun _ _ => trivial) (Below.refl _ _) ?aS ?aL ?_;(case aR => exact Kd.C_below HC.out (by first|exact HN.out|exact below_step (pw_below_drewN (Below.refl _ _) _) HN.out));(case aO => exact Kd.R_lower HM.out (by first|exact Nat.le_refl _|exact HN.out.size));(case aS => exact HN.out.size);(case aL => have:=h0;simp only [List.length_nil];omega);intro v7 w7 ho7 hb7 hg7 hat7;have HO7:=ak_ ho7;have HB7:=ak_ hb7;have HG7:=ak_ hg7;clear ho7 hb7 hg7 hat7))
  go_ret
  refine ⟨_,rfl,by simpa using HO7.out,?_⟩
  exact Below.trans HN.out HB7.out


/-! ### mdct_Joiner_Copy: function 22 -/
def mdct_Joiner_Copy.f (s0_0 : Int) (s0_1 : Int) (s0_2 : List Int) : Option (Int × Int × List Int):=(slices_Clone_int64_int64.f s0_2).bind fun l => some (s0_0,s0_1,l)
set_option maxHeartbeats 8000000 in
set_option maxRecDepth 100000 in
theorem mdct_Joiner_Copy.calls (g : Nat) (s0_0 : Int) (s0_1 : Int) (s0_2 : List Int) (r1 : Int) (r2 : Int) (r3 : List Int) (w0 w : World) (hI : IsS52 w0 w g s0_0 s0_1 s0_2) (hB : Below w0.heap.size w0 w) (h : mdct_Joiner_Copy.f s0_0 s0_1 s0_2 = some (r1,r2,r3)) :
  Calls Try.prog 22 #[.pointer (some ⟨g,0,none⟩)] w fun e w' => ∃ g_,e = .returned (.pointer (some ⟨g_,0,none⟩)) ∧ IsS52 w0 w' g_ r1 r2 r3 ∧ Below w0.heap.size w0 w' ∧ Below w.heap.size w w' ∧ w.heap.size ≤ g_:=by
 have hu52:=Try.underlying52
 unfold mdct_Joiner_Copy.f at h
 obtain ⟨l,hl0,h⟩:=Option.bind_eq_some_iff.mp h
 simp only [Option.some.injEq,Prod.mk.injEq] at h
 obtain ⟨rfl,rfl,rfl⟩:=h
 obtain ⟨vv,hI,hQ⟩:=hI
 obtain ⟨A9,c9,ev,hc9⟩:=Kd.Q_slice hQ
 subst ev
 have HG:=ak_ hI.1
 have HL:=ak_ (blk_lt hI.1)
 have HR:=ak_ (Kd.Q_reads' hQ).2.2
 have HC:=ak_ hc9
 have HD:=ak_ hl0
 clear hI hQ hc9 hl0
 go_enter Try.func22,Try.ntmps22
 go_wp2_with (first|(refine wpList_load_row rfl 52 (.tmp 5) rfl g rfl 52 _ (0,0) _ HG.out Try.underlying52 rfl (by kernel_rfl) ?_)|((with_reducible refine gate_dst (N:=3) rfl ?_);refine box_event ?hg (N:=3) ?hd (cs:=#[.int .i64 0,.int .i64 0,.slice none 0 0]) (t:=52) ?hr ?_;(case hd => rfl);(case hg => rfl);(case hr => first|(go_simp;done)|(go_simp;rfl));intro gb hg_ w1 hbox hb2;have HX:=ak_ hbox;have HY:=ak_ hb2;have HZ:=ak_ hg_;clear hbox hb2 hg_)|(refine wpList_store_row rfl 52 (.tmp 3) (.tmp 6) rfl gb #[.int .i64 s0_0,.int .i64 s0_1,.slice A9 s0_2.length c9] rfl rfl 52 _ HX.out (by kernel_rfl) (by kernel_rfl) (by kernel_rfl) ?_;obtain ⟨w2,hw2⟩ : ∃ w2,w2 = w1.setRow gb #[.int .i64 s0_0,.int .i64 s0_1,.slice A9 s0_2.length c9]:=⟨_,rfl⟩;rw [← hw2];have HW:=ak_ hw2;clear hw2;have hgg : w.heap.size ≤ gb:=(Nat.le_of_eq HZ.out.symm);have HS:=ak_ (show Below w.heap.size w w2 from by rw [HW.out];exact below_setRow HY.out hgg _);have HT:=ak_ (show w2.heap[gb]? = some (.cells #[.int .i64 s0_0,.int .i64 s0_1,.slice A9 s0_2.length c9] 52 (0,0)) from by rw [HW.out];exact setRow_heap w1 gb _ _ 52 (0,0) HX.out);have HU:=ak_ (blk_below HG.out HS.out);have hx2 : w2.cell? ⟨g,2,none⟩ = some (.slice A9 s0_2.length c9):=(blk_cell HU.out 2).trans rfl)|((with_reducible refine gate_callee (f:=37) rfl ?_);refine goesL_ (some 11) rfl rfl Try.func37 (by kernel_rfl) rfl #[.slice A9 s0_2.length c9] rfl (by (try simp only [List.map_toArray,List.map_cons,List.map_nil]);first|done|rfl) ?_;(with_reducible refine (slices_Clone_int64_int64.calls A9 c9 s0_2 _ _ (Kd.C_below HR.out HS.out) HC.out HD.out).mono ?_);rintro e w3 ⟨v0,rfl,hv0,hb3⟩;refine ⟨_,rfl,?_⟩;obtain ⟨A6,c6,e6⟩:=Kd.R_slice hv0;subst e6;have HM:=ak_ hv0;have HN:=ak_ hb3;clear hv0 hb3;have HP:=ak_ (blk_below HT.out HN.out);have hx3 : w3.cell? ⟨gb,2,none⟩ = some (.slice A9 s0_2.length c9):=(blk_cell HP.out 2).trans rfl;have hf3 : w3.frozen? ⟨gb,2,none⟩ = false:=blk_frozen HP.out 2)|((with_reducible refine gate_store (t:=23) (p:=12) rfl ?_);refine store_event (t:=23) (p:=12) (v:=?vo_) (w1:=w3.setCell ⟨gb,2,none⟩ (.slice A6 l.length c6)) ?hg ?ho ?hn ?hr ?_;(case ho => rfl);(case hg => rfl);(case hn => rfl);(case hr => first|(go_simp;done)|(go_simp;rfl));intro w4 hw4;have HV:=ak_ hw4;clear hw4))
 go_ret
 have hg0 : w.heap.size ≤ gb:=Nat.le_of_eq HZ.out.symm
 have hQ1 : (Kd.int .i64).Q 2 w3 w.heap.size (fun _ => True) (.slice A6 l.length c6) l:=Kd.Q_lower (Kd.Q_of_R HM.out) HS.out.size
 have hput:=IsS52v.put (w0:=w0) (W:=w3) (g:=gb) (f0:=s0_0) (f1:=s0_1) (f2:=s0_2) ⟨HP.out,Nat.le_trans hB.size hg0,rfl⟩ (Kd.Q_lower hQ1 hB.size)
 have hb4 : Below w.heap.size w w4:=by rw [HV.out];exact below_set (below_step HS.out HN.out) hg0
 exact ⟨_,rfl,by rw [HV.out];exact hput,below_step hB hb4,hb4,hg0⟩


end Go.Proofs.Ytlmacbiahofmcaa.P
