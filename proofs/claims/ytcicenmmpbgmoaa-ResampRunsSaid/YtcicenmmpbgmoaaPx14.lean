/- The machine side of the laws of one chapter, without conditions: each call of a Go function comes to what the Lean function of its name answers. Written for this claim by a program of the prover. -/
import Derived.Test.YtcicenmmpbgmoaaPx0
import Derived.Test.YtcicenmmpbgmoaaPx2
namespace Go.Proofs.Ytcicenmmpbgmoaa.P
open Go.RowKit Go.Proofs.YtcicenmmpbgmoaaW.PrintWords Go.Proofs.YtcicenmmpbgmoaaW.PrintLast Go.Proofs.YtcicenmmpbgmoaaW.PrintMore
attribute [local go_sem] max2_int min2_int max_two min_two max_three min_three max_four min_four   -- for this text's walks alone
set_option linter.unusedVariables false
set_option linter.unusedSimpArgs false

/-! ### resamp_Sampler_Reset: function 26 -/
theorem run_storeVar_at {P : Program} (w : World) (g off : Nat) (t ty : TypeId) (old cells : Array Value) (hg : w.heap[g]? = some (.cells old t (0,0))) (hi : (P.info? ty).map (·.size) = some cells.size)
  (ho : off + cells.size ≤ old.size) (h1 : cells.all (·.oneCell') = true) :
  (storeVar ty ⟨g,off,none⟩ (.agg cells)).run P w = .ok () (w.setRow g (old.toList.take off ++ cells.toList ++ old.toList.drop (off + cells.size)).toArray):=by
 have:=run_storeCells_at P g off t cells.toList 0 old w hg (by simpa using ho) (fun v hv => (Array.all_eq_true_iff_forall_mem.1 h1) v (by simpa using hv))
 cases hq : P.info? ty with
 | none => simp [hq] at hi
 | some i =>
  have hs : cells.size = i.size:=by simp [hq] at hi;omega
  simp [storeVar,sizeOf,typeInfo,hq,Value.cells,hs,this]
theorem wpList_store_at {P : Program} {ops : Array Oper} {rest : List Oper} {o : Oper} {a : Act} {w : World} {Q : Exit → Act → World → Prop} (hgd : o.guard = none) (ty : TypeId) (x y : Operand) (ho : o.op = .store ty x y)
  (g off : Nat) (cells : Array Value) (hx : a.eval x = .pointer (some ⟨g,off,none⟩)) (hy : a.eval y = .agg cells)
  (t : TypeId) (old : Array Value) (hg : w.heap[g]? = some (.cells old t (0,0))) (hi : (P.info? ty).map (·.size) = some cells.size)
  (hfit : off + cells.size ≤ old.size) (h1 : cells.all (·.oneCell') = true)
  (h : wpList P ops Q rest (a.put o.dst undef) (w.setRow g (old.toList.take off ++ cells.toList ++ old.toList.drop (off + cells.size)).toArray)) : wpList P ops Q (o :: rest) a w :=
 wpList_plain hgd fun K hK => by
  unfold Oper.wp execOp
  simp only [ho,hx,hy,Instr.storeAt,Instr.sureAddr,Sem.run_bind,Sem.run_pure,Result.andThen_ok,run_storeVar_at w g off t ty old cells hg hi hfit h1]
  exact hK _ _ h
def resamp_Sampler_Reset.f (s0_0 : Int) (s0_1 : Int) (s0_2 : List Int) : Option (Int × Int × List Int):=some (s0_0,s0_1,List.replicate 16 0)
set_option maxHeartbeats 8000000 in
set_option maxRecDepth 100000 in
theorem resamp_Sampler_Reset.calls (g : Nat) (s0_0 : Int) (s0_1 : Int) (s0_2 : List Int) (r1 : Int) (r2 : Int) (r3 : List Int) (w0 w : World) (hI : IsS53 w0 w g s0_0 s0_1 s0_2) (hB : Below w0.heap.size w0 w) (h : resamp_Sampler_Reset.f s0_0 s0_1 s0_2 = some (r1,r2,r3)) :
  Calls Try.prog 26 #[.pointer (some ⟨g,0,none⟩)] w fun e w' => e = .returned (.tuple #[]) ∧ IsS53 w0 w' g r1 r2 r3 ∧ Below w0.heap.size w0 w' ∧ KeepBut w w' g none:=by
 have hu51:=Try.underlying51
 simp only [resamp_Sampler_Reset.f,Option.some.injEq,Prod.mk.injEq] at h
 obtain ⟨rfl,rfl,rfl⟩:=h
 obtain ⟨hb,hg,hl⟩:=hI
 have hfit : 2 + (#[.int .i64 0,.int .i64 0,.int .i64 0,.int .i64 0,.int .i64 0,.int .i64 0,.int .i64 0,.int .i64 0,.int .i64 0,.int .i64 0,.int .i64 0,.int .i64 0,.int .i64 0,.int .i64 0,.int .i64 0,.int .i64 0] : Array Value).size ≤ (Value.int .i64 s0_0 :: Value.int .i64 s0_1 :: List.map (Value.int .i64) s0_2).toArray.size:=by
  simp only [List.size_toArray,List.length_cons,List.length_map,hl]
  decide
 have hone : (#[.int .i64 0,.int .i64 0,.int .i64 0,.int .i64 0,.int .i64 0,.int .i64 0,.int .i64 0,.int .i64 0,.int .i64 0,.int .i64 0,.int .i64 0,.int .i64 0,.int .i64 0,.int .i64 0,.int .i64 0,.int .i64 0] : Array Value).all (·.oneCell') = true:=by kernel_rfl
 have HG:=ak_ hb
 clear hb
 go_enter Try.func26,Try.ntmps26
 go_wp2_with (first|(refine wpList_store_at rfl 51 (.tmp 5) (.tmp 3) rfl g 2 #[.int .i64 0,.int .i64 0,.int .i64 0,.int .i64 0,.int .i64 0,.int .i64 0,.int .i64 0,.int .i64 0,.int .i64 0,.int .i64 0,.int .i64 0,.int .i64 0,.int .i64 0,.int .i64 0,.int .i64 0,.int .i64 0] rfl rfl 53 _ HG.out (by kernel_rfl) hfit hone ?_;obtain ⟨w2,hw2⟩ : ∃ w2,w2 = w.setRow g ((Value.int .i64 s0_0 :: Value.int .i64 s0_1 :: List.map (Value.int .i64) s0_2).toArray.toList.take 2 ++ (#[.int .i64 0,.int .i64 0,.int .i64 0,.int .i64 0,.int .i64 0,.int .i64 0,.int .i64 0,.int .i64 0,.int .i64 0,.int .i64 0,.int .i64 0,.int .i64 0,.int .i64 0,.int .i64 0,.int .i64 0,.int .i64 0] : Array Value).toList ++ (Value.int .i64 s0_0 :: Value.int .i64 s0_1 :: List.map (Value.int .i64) s0_2).toArray.toList.drop (2 + (#[.int .i64 0,.int .i64 0,.int .i64 0,.int .i64 0,.int .i64 0,.int .i64 0,.int .i64 0,.int .i64 0,.int .i64 0,.int .i64 0,.int .i64 0,.int .i64 0,.int .i64 0,.int .i64 0,.int .i64 0,.int .i64 0] : Array Value).size)).toArray:=⟨_,rfl⟩;rw [← hw2];have HW:=ak_ hw2;clear hw2))
 first|go_end0|((try simp only [Exit.inBlock,Exit.then]);refine bodyPost_ret (results_none rfl _ _ _) rfl ?_)
 refine ⟨rfl,⟨?_,hg,rfl⟩,by rw [HW.out];exact below_setRow hB hg _,by rw [HW.out];exact ⟨by simp [World.setRow],fun k _ hk _ => setRow_other w g k _ hk⟩⟩
 rw [HW.out]
 refine (setRow_heap w g _ _ 53 (0,0) HG.out).trans ?_
 congr 2
 simp [hl,List.drop_eq_nil_of_le]


end Go.Proofs.Ytcicenmmpbgmoaa.P
