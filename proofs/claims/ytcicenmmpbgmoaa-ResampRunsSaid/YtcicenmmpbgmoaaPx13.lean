/- The machine side of the laws of one chapter, without conditions: each call of a Go function comes to what the Lean function of its name answers. Written for this claim by a program of the prover. -/
import Derived.Test.YtcicenmmpbgmoaaPx0
import Derived.Test.YtcicenmmpbgmoaaPx2
namespace Go.Proofs.Ytcicenmmpbgmoaa.P
open Go.RowKit Go.Proofs.YtcicenmmpbgmoaaW.PrintWords Go.Proofs.YtcicenmmpbgmoaaW.PrintLast Go.Proofs.YtcicenmmpbgmoaaW.PrintMore
attribute [local go_sem] max2_int min2_int max_two min_two max_three min_three max_four min_four   -- for this text's walks alone
set_option linter.unusedVariables false
set_option linter.unusedSimpArgs false

/-! ### resamp_Sampler_Same: function 23 -/
theorem exec_load_row {P : Program} {o : Oper} {a : Act} {w : World} {ty : TypeId} {x : Operand} (ho : o.op = .load ty x) {g : Nat} (hx : a.eval x = .pointer (some ⟨g,0,none⟩)) {t : TypeId} {cs : Array Value} {fr : Nat × Nat} {d : TypeDesc} (hg : w.heap[g]? = some (.cells cs t fr))
  (hu : P.underlying ty = some d) (hd : (match d with|.struct _|.array _ _ => true|_ => false) = true) (hi : (P.info? ty).map (·.size) = some cs.size) : (execOp a.eval o).run P w = .ok (.value (.agg cs)) w:=by
 unfold execOp
 simp only [ho,hx,Instr.loadAt,Instr.sureAddr,Sem.run_bind,Sem.run_pure,Result.andThen_ok,run_loadVar_row w g t ty cs fr d hg hu hd hi]
theorem eqItems_int {P : Program} {w : World} {e : TypeId} {k : IntKind} (hp : P.plainKey e = true) (hu : P.underlying e = some (.int k)) (d : Nat) (xs ys : Array Value) (us vs : List Int) :
  ∀ is : List Nat,(∀ i ∈ is,xs[i]? = some (.int k (us.getD i 0)) ∧ ys[i]? = some (.int k (vs.getD i 0))) → (Op.eqItems (d + 1) e 1 xs ys is).run P w = .ok (is.all fun i => us.getD i 0 == vs.getD i 0) w
 | [],_ => by simp [Op.eqItems]
 | i :: is,h => by
  obtain ⟨h1,h2⟩:=h i (by simp)
  have ih:=eqItems_int (w:=w) hp hu d xs ys us vs is (fun j hj => h j (by simp [hj]))
  have e1 : (Op.equalIn (d + 1) e (.int k (us.getD i 0)) (.int k (vs.getD i 0))).run P w = .ok (us.getD i 0 == vs.getD i 0) w:=by
   simp [Op.equalIn,run_underlying hu,Result.andThen]
  simp only [Op.eqItems,Sem.run_bind,Nat.mul_one,run_part_plain w hp h1,run_part_plain w hp h2,Result.andThen_ok,e1,List.all_cons]
  cases us.getD i 0 == vs.getD i 0
  ·simp
  ·simpa using ih
theorem equal_row {P : Program} {w : World} {t e : TypeId} {k : IntKind} {n : Nat} {i : TypeInfo} (hu : P.underlying t = some (.array n e)) (hi : P.info? e = some i) (hc : P.cellsOf e = 1) (hp : P.plainKey e = true) (he : P.underlying e = some (.int k)) (d : Nat) (us vs : List Int) (hl : us.length = n) (hl2 : vs.length = n) :
  (Op.equalIn (d + 2) t (.agg (us.map (Value.int k)).toArray) (.agg (vs.map (Value.int k)).toArray)).run P w = .ok (decide (us = vs)) w:=by
 rw [run_equalIn_array w (d + 1) _ _ hu hi,hc,eqItems_int hp he d _ _ us vs _ (by
  intro j hj
  have hj2 : j < n:=by simpa using hj
  simp [hl,hl2,hj2,List.getD_eq_getElem?_getD])]
 congr 1
 rw [Bool.eq_iff_iff,List.all_eq_true,decide_eq_true_iff]
 constructor
 ·intro h
  apply List.ext_getElem (by omega)
  intro j h1 h2
  have:=h j (by simp;omega)
  simpa [List.getD_eq_getElem?_getD,h1,h2] using this
 ·rintro rfl j _
  simp
theorem len16 : ∀ l : List Int,l.length = 16 → ∃ a0 a1 a2 a3 a4 a5 a6 a7 a8 a9 a10 a11 a12 a13 a14 a15,l = [a0,a1,a2,a3,a4,a5,a6,a7,a8,a9,a10,a11,a12,a13,a14,a15]
 | [a0,a1,a2,a3,a4,a5,a6,a7,a8,a9,a10,a11,a12,a13,a14,a15],_ => ⟨a0,a1,a2,a3,a4,a5,a6,a7,a8,a9,a10,a11,a12,a13,a14,a15,rfl⟩
def resamp_Sampler_Same.f (s0_0 : Int) (s0_1 : Int) (s0_2 : List Int) (s1_0 : Int) (s1_1 : Int) (s1_2 : List Int) : Option Bool:=some (decide (s0_0 = s1_0) && (decide (s0_1 = s1_1) && decide (s0_2 = s1_2)))
set_option maxHeartbeats 8000000 in
set_option maxRecDepth 100000 in
theorem resamp_Sampler_Same.calls (g : Nat) (s0_0 : Int) (s0_1 : Int) (s0_2 : List Int) (g' : Nat) (s1_0 : Int) (s1_1 : Int) (s1_2 : List Int) (r : Bool) (w0 w : World) (hI : IsS53 w0 w g s0_0 s0_1 s0_2) (hJ : IsS53 w0 w g' s1_0 s1_1 s1_2) (hB : Below w0.heap.size w0 w) (h : resamp_Sampler_Same.f s0_0 s0_1 s0_2 s1_0 s1_1 s1_2 = some r) :
  Calls Try.prog 23 #[.pointer (some ⟨g,0,none⟩),.pointer (some ⟨g',0,none⟩)] w fun e w' => e = .returned (.bool r) ∧ Drawn0 w w':=by
 have hu53:=Try.underlying53
 have hu51:=Try.underlying51
 simp only [resamp_Sampler_Same.f,Option.some.injEq] at h
 obtain ⟨hb,_,hl⟩:=hI
 obtain ⟨hb2,_,hl2⟩:=hJ
 obtain ⟨i2,hi2⟩:=info_of_underlying Try.underlying2
 have he:=fun W : World => equal_row (P:=Try.prog) (w:=W) (t:=51) (e:=2) (k:=.i64) hu51 hi2 (by kernel_rfl) (by kernel_rfl) Try.underlying2 9997 s0_2 s1_2 hl hl2
 obtain ⟨a0,a1,a2,a3,a4,a5,a6,a7,a8,a9,a10,a11,a12,a13,a14,a15,rfl⟩:=len16 _ hl
 obtain ⟨b0,b1,b2,b3,b4,b5,b6,b7,b8,b9,b10,b11,b12,b13,b14,b15,rfl⟩:=len16 _ hl2
 clear hl hl2 hB hi2
 generalize hd : decide ([a0,a1,a2,a3,a4,a5,a6,a7,a8,a9,a10,a11,a12,a13,a14,a15] = [b0,b1,b2,b3,b4,b5,b6,b7,b8,b9,b10,b11,b12,b13,b14,b15]) = q at he h
 simp only [List.map_cons,List.map_nil,Nat.reduceAdd] at hb hb2 he
 subst h
 clear hd
 go_enter Try.func23,Try.ntmps23
 go_wp2
 refine start_ (n:=8) (S:=fun w' => w'.heap[g]? = some (.cells #[.int .i64 s0_0,.int .i64 s0_1,.int .i64 a0,.int .i64 a1,.int .i64 a2,.int .i64 a3,.int .i64 a4,.int .i64 a5,.int .i64 a6,.int .i64 a7,.int .i64 a8,.int .i64 a9,.int .i64 a10,.int .i64 a11,.int .i64 a12,.int .i64 a13,.int .i64 a14,.int .i64 a15] 53 (0,0)) ∧ w'.heap[g']? = some (.cells #[.int .i64 s1_0,.int .i64 s1_1,.int .i64 b0,.int .i64 b1,.int .i64 b2,.int .i64 b3,.int .i64 b4,.int .i64 b5,.int .i64 b6,.int .i64 b7,.int .i64 b8,.int .i64 b9,.int .i64 b10,.int .i64 b11,.int .i64 b12,.int .i64 b13,.int .i64 b14,.int .i64 b15] 53 (0,0))) (ds:=[]) #[false,false,false,false,false,false,false,false] (by kernel_rfl) rfl rfl ⟨hb,hb2⟩ (fun hHeld => ?_)
 refine pure_ (i:=0) (N:=some 5) (v:=?_) (a':=?_) #[true,false,false,false,false,false,false,false] rfl rfl (by kernel_rfl) (fun _ _ _ h => h) (Or.inl ⟨by rfl,?_⟩) ?_ ?_
 rotate_left
 ·intro w'
  go_simp
  with_reducible rfl
 rotate_left
 ·simp only [Act.put,List.setIfInBounds_toArray,List.set_cons_zero,List.set_cons_succ,i64_w,i32_w]
  rfl
 refine pure_ (i:=1) (N:=some 6) (v:=?_) (a':=?_) #[true,true,false,false,false,false,false,false] rfl rfl (by kernel_rfl) (fun _ _ _ h => h) (Or.inl ⟨by rfl,?_⟩) ?_ ?_
 rotate_left
 ·intro w'
  go_simp
  with_reducible rfl
 rotate_left
 ·simp only [Act.put,List.setIfInBounds_toArray,List.set_cons_zero,List.set_cons_succ,i64_w,i32_w]
  rfl
 refine pure_ (i:=3) (N:=some 8) (v:=?_) (a':=?_) #[true,true,false,true,false,false,false,false] rfl rfl (by kernel_rfl) (fun _ _ _ h => h) (Or.inl ⟨by rfl,?_⟩) ?_ ?_
 rotate_left
 ·intro w'
  go_simp
  with_reducible rfl
 rotate_left
 ·simp only [Act.put,List.setIfInBounds_toArray,List.set_cons_zero,List.set_cons_succ,i64_w,i32_w]
  rfl
 refine pure_ (i:=4) (N:=some 9) (v:=?_) (a':=?_) #[true,true,false,true,true,false,false,false] rfl rfl (by kernel_rfl) (fun _ _ _ h => h) (Or.inl ⟨by rfl,?_⟩) ?_ ?_
 rotate_left
 ·intro w'
  go_simp
  with_reducible rfl
 rotate_left
 ·simp only [Act.put,List.setIfInBounds_toArray,List.set_cons_zero,List.set_cons_succ,i64_w,i32_w]
  rfl
 refine take_ (i:=2) (N:=some 7) (v:=?_) (a':=?_) #[true,true,true,true,true,false,false,false] rfl rfl (by kernel_rfl) (fun _ _ _ h => h) (Or.inl ⟨by rfl,?_⟩) hHeld ?_ ?_
 rotate_left
 ·rintro w' ⟨s0,s1⟩
  refine exec_load_row (x:=.tmp 6) ?_ ?_ s0 hu53 ?_ ?_ <;> first|rfl|kernel_rfl
 rotate_left
 ·simp only [Act.put,List.setIfInBounds_toArray,List.set_cons_zero,List.set_cons_succ,i64_w,i32_w]
  rfl
 refine take_ (i:=5) (N:=some 10) (v:=?_) (a':=?_) #[true,true,true,true,true,true,false,false] rfl rfl (by kernel_rfl) (fun _ _ _ h => h) (Or.inl ⟨by rfl,?_⟩) hHeld ?_ ?_
 rotate_left
 ·rintro w' ⟨s0,s1⟩
  refine exec_load_row (x:=.tmp 9) ?_ ?_ s1 hu53 ?_ ?_ <;> first|rfl|kernel_rfl
 rotate_left
 ·simp only [Act.put,List.setIfInBounds_toArray,List.set_cons_zero,List.set_cons_succ,i64_w,i32_w]
  rfl
 refine pure_ (i:=6) (N:=some 11) (v:=?_) (a':=?_) #[true,true,true,true,true,true,true,false] rfl rfl (by kernel_rfl) (fun _ _ _ h => h) (Or.inl ⟨by rfl,?_⟩) ?_ ?_
 rotate_left
 ·intro w'
  refine Eq.trans (b:=Result.ok (Next.value (Value.bool (decide (s0_0 = s1_0) && (decide (s0_1 = s1_1) && q)))) w') ?_ (by rfl)
  go_simp
  by_cases h1 : s0_0 = s1_0
  ·by_cases h2 : s0_1 = s1_1
   ·simp only [h1,h2,if_true,he,Result.andThen]
    cases q <;> simp
   ·simp [h1,h2]
  ·simp [h1]
 rotate_left
 ·simp only [Act.put,List.setIfInBounds_toArray,List.set_cons_zero,List.set_cons_succ,i64_w,i32_w]
  rfl
 refine pure_ (i:=7) (N:=some 4) (v:=?_) (a':=?_) #[true,true,true,true,true,true,true,true] rfl rfl (by kernel_rfl) (fun _ _ _ h => h) (Or.inl ⟨by rfl,?_⟩) ?_ ?_
 rotate_left
 ·intro w'
  go_simp
  with_reducible rfl
 rotate_left
 ·simp only [Act.put,List.setIfInBounds_toArray,List.set_cons_zero,List.set_cons_succ,i64_w,i32_w]
  rfl
 refine done_ (by kernel_rfl) ?_
 try go_wp2
 go_ret
 exact ⟨rfl,⟨_,rfl⟩⟩


end Go.Proofs.Ytcicenmmpbgmoaa.P
