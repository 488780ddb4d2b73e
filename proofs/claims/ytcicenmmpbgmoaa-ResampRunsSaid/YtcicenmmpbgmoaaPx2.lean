/- The machine side of the laws of one chapter, without conditions: each call of a Go function comes to what the Lean function of its name answers. Written for this claim by a program of the prover. -/
import Derived.Test.YtcicenmmpbgmoaaPx0
import Derived.Test.YtcicenmmpbgmoaaPx1
namespace Go.Proofs.Ytcicenmmpbgmoaa.P
open Go.RowKit Go.Proofs.YtcicenmmpbgmoaaW.PrintWords Go.Proofs.YtcicenmmpbgmoaaW.PrintLast Go.Proofs.YtcicenmmpbgmoaaW.PrintMore
attribute [local go_sem] max2_int min2_int max_two min_two max_three min_three max_four min_four   -- for this text's walks alone
set_option linter.unusedVariables false
set_option linter.unusedSimpArgs false

/-! ### resamp_New: function 12 -/
theorem FK_slice_mkR {α : Type} {d : Kd α} {e e' base : Nat} {W : World} {ok : Nat → Prop} {v : Value} {l : List α} (h : d.R e' W base ok v l) : Kd.FK (Kd.slice e d) W ok l [v]:=by
 obtain ⟨A,c,rfl⟩:=Kd.R_slice h
 exact Kd.FK_slice_mk (Kd.R_reads' h).2.1 (Kd.R_F h)
/-- A state of type 53 at block g of W, with a list in its own block. -/
def IsS53 (w0 W : World) (g : Nat) (f0 : Int) (f1 : Int) (f2 : List Int) : Prop:=W.heap[g]? = some (.cells (Value.int .i64 f0 :: Value.int .i64 f1 :: f2.map (Value.int .i64)).toArray 53 (0,0)) ∧ w0.heap.size ≤ g ∧ f2.length = 16
theorem IsS53.grown {w0 W : World} {g : Nat} {f0 : Int} {f1 : Int} {f2 : List Int} {W1 : World} {row : Option Nat} (h : IsS53 w0 W g f0 f1 f2) (hw : W.grownBy W1 row) (hne : some g ≠ row) : IsS53 w0 W1 g f0 f1 f2:=by
 obtain ⟨hb,hg,hl⟩:=h
 exact ⟨blk_grown hb hw hne,hg,hl⟩
theorem IsS53.own_neN {w0 W : World} {g : Nat} {f0 : Int} {f1 : Int} {f2 : List Int} {α : Type} {d : Kd α} {e : Nat} {base : Nat} {ok : Nat → Prop} {v : Value} {xs : List α} (h : IsS53 w0 W g f0 f1 f2) (ho : Kd.N d e W base ok v xs) (ht : e ≠ 53) : some g ≠ v.ownBlock:=by
 obtain ⟨hb,hg,hl⟩:=h
 exact Kd.N_ne ho hb ht
theorem IsS53.fresh {w0 W : World} {g : Nat} {f0 : Int} {f1 : Int} {f2 : List Int} (h : IsS53 w0 W g f0 f1 f2) : ∀ k,W.heap.size ≤ k → k ≠ g:=by
 obtain ⟨hb,hg,hl⟩:=h
 exact Kd.freshB hb
theorem IsS53.kept {w0 W : World} {g : Nat} {f0 : Int} {f1 : Int} {f2 : List Int} {W1 : World} {S : Nat → Prop} (h : IsS53 w0 W g f0 f1 f2) (hk : Kept W W1 S) (hne : ¬ S g) : IsS53 w0 W1 g f0 f1 f2:=by
 obtain ⟨hb,hg,hl⟩:=h
 exact ⟨blk_kept hb hk hne,hg,hl⟩
theorem IsS53.keepB {w0 W : World} {g : Nat} {f0 : Int} {f1 : Int} {f2 : List Int} {W1 : World} {g2 : Nat} (h : IsS53 w0 W g f0 f1 f2) (hk : KeepBut W W1 g2 none) (hne : g ≠ g2) : IsS53 w0 W1 g f0 f1 f2:=by
 obtain ⟨hb,hg,hl⟩:=h
 exact ⟨KeepBut.blk (g:=g2) hk hb hne (by simp),hg,hl⟩
theorem IsS53.below {w0 W : World} {g : Nat} {f0 : Int} {f1 : Int} {f2 : List Int} {W1 : World} (h : IsS53 w0 W g f0 f1 f2) (hw : Below W.heap.size W W1) : IsS53 w0 W1 g f0 f1 f2:=h.grown (grown_of_below hw none) (by simp)
theorem IsS53.alloc {w0 W : World} {g : Nat} {f0 : Int} {f1 : Int} {f2 : List Int} (h : IsS53 w0 W g f0 f1 f2) (o : Obj) : IsS53 w0 (W.alloc o) g f0 f1 f2:=h.below (below_alloc (Below.refl _ _) o)
theorem IsS53.drewN {w0 W : World} {g : Nat} {f0 : Int} {f1 : Int} {f2 : List Int} (h : IsS53 w0 W g f0 f1 f2) (m : Nat) : IsS53 w0 (W.drewN m) g f0 f1 f2:=h
theorem IsS53.drew {w0 W : World} {g : Nat} {f0 : Int} {f1 : Int} {f2 : List Int} (h : IsS53 w0 W g f0 f1 f2) : IsS53 w0 W.drew g f0 f1 f2:=h
theorem IsS53.at_ {w0 W : World} {g : Nat} {f0 : Int} {f1 : Int} {f2 : List Int} {w' : World} {m : Nat} (hq : W.drewN m = w') (h : IsS53 w0 W g f0 f1 f2) : IsS53 w0 w' g f0 f1 f2:=by subst hq;exact IsS53.drewN h m
theorem IsS53.apart {w0 W : World} {g : Nat} {f0 : Int} {f1 : Int} {f2 : List Int} {α : Type} {d : Kd α} {e : Nat} {base : Nat} {ok : Nat → Prop} {v : Value} {xs : List α} (h : IsS53 w0 W g f0 f1 f2) (ho : d.R e W base ok v xs) (ht : ∀ q,q ∈ e :: d.E → q ≠ 53) : d.R e W base (fun k => ok k ∧ k ≠ g) v xs:=by
 obtain ⟨hb,hg,hl⟩:=h
 exact Kd.R_types ho hb ht
theorem IsS53.apartQ {w0 W : World} {g : Nat} {f0 : Int} {f1 : Int} {f2 : List Int} {α : Type} {d : Kd α} {e : Nat} {base : Nat} {ok : Nat → Prop} {v : Value} {xs : List α} (h : IsS53 w0 W g f0 f1 f2) (ho : d.Q e W base ok v xs) (ht : ∀ q,q ∈ e :: d.E → q ≠ 53) : d.Q e W base (fun k => ok k ∧ k ≠ g) v xs:=by
 obtain ⟨hb,hg,hl⟩:=h
 exact Kd.Q_types ho hb ht
theorem IsS53.apartS {w0 W : World} {g : Nat} {f0 : Int} {f1 : Int} {f2 : List Int} {α : Type} {d : Kd α} {e : Nat} {base : Nat} {ok : Nat → Prop} {v : Value} {xs : List α} (h : IsS53 w0 W g f0 f1 f2) (ho : d.S e W base ok v xs) (ht : ∀ q,q ∈ e :: d.E → q ≠ 53) : d.S e W base (fun k => ok k ∧ k ≠ g) v xs:=by
 obtain ⟨hb,hg,hl⟩:=h
 exact Kd.S_types ho hb ht
theorem IsS53.own_ne {w0 W : World} {g : Nat} {f0 : Int} {f1 : Int} {f2 : List Int} {α : Type} {d : Kd α} {e : Nat} {base : Nat} {ok : Nat → Prop} {v : Value} {xs : List α} (h : IsS53 w0 W g f0 f1 f2) (ho : d.R e W base ok v xs) (ht : e ≠ 53) : some g ≠ v.ownBlock:=by
 obtain ⟨hb,hg,hl⟩:=h
 exact Kd.R_ne ho hb ht
theorem IsS53.own_neQ {w0 W : World} {g : Nat} {f0 : Int} {f1 : Int} {f2 : List Int} {α : Type} {d : Kd α} {e : Nat} {base : Nat} {ok : Nat → Prop} {v : Value} {xs : List α} (h : IsS53 w0 W g f0 f1 f2) (ho : d.Q e W base ok v xs) (ht : e ≠ 53) : some g ≠ v.ownBlock:=by
 obtain ⟨hb,hg,hl⟩:=h
 exact Kd.Q_ne ho hb ht
theorem IsS53.own_neS {w0 W : World} {g : Nat} {f0 : Int} {f1 : Int} {f2 : List Int} {α : Type} {d : Kd α} {e : Nat} {base : Nat} {ok : Nat → Prop} {v : Value} {xs : List α} (h : IsS53 w0 W g f0 f1 f2) (ho : d.S e W base ok v xs) (ht : e ≠ 53) : some g ≠ v.ownBlock:=by
 obtain ⟨hb,hg,hl⟩:=h
 exact Kd.S_ne ho hb ht
theorem IsS53.lt {w0 W : World} {g : Nat} {f0 : Int} {f1 : Int} {f2 : List Int} (h : IsS53 w0 W g f0 f1 f2) : g < W.heap.size:=by
 obtain ⟨hb,hg,hl⟩:=h
 exact blk_lt hb
theorem IsS53.ge {w0 W : World} {g : Nat} {f0 : Int} {f1 : Int} {f2 : List Int} (h : IsS53 w0 W g f0 f1 f2) : w0.heap.size ≤ g:=by
 obtain ⟨hb,hg,hl⟩:=h
 exact hg
theorem IsS53.typ {w0 W : World} {g : Nat} {f0 : Int} {f1 : Int} {f2 : List Int} (h : IsS53 w0 W g f0 f1 f2) : ∃ cs T,W.heap[g]? = some (.cells cs T (0,0)) ∧ T ≠ 2:=by
 obtain ⟨hb,hg,hl⟩:=h
 exact ⟨_,_,hb,by decide⟩
theorem IsS53.ne_blk {w0 W : World} {g : Nat} {f0 : Int} {f1 : Int} {f2 : List Int} {a : Nat} {cs : Array Value} {t : TypeId} {fr : Nat × Nat} (h : IsS53 w0 W g f0 f1 f2) (hb2 : W.heap[a]? = some (.cells cs t fr)) (ht : t ≠ 53) : g ≠ a:=by
 obtain ⟨hb,hg,hl⟩:=h
 rintro rfl
 rw [hb] at hb2
 injection hb2 with hb2
 injection hb2 with _ ht2
 exact ht ht2.symm
theorem IsS53.far {w0 W : World} {g : Nat} {f0 : Int} {f1 : Int} {f2 : List Int} {p : Addr} (h : IsS53 w0 W g f0 f1 f2) (hne : g ≠ p.block) (u : Value) : IsS53 w0 (W.setCell p u) g f0 f1 f2:=by
 obtain ⟨hb,hg,hl⟩:=h
 exact ⟨blk_far hb hne u,hg,hl⟩
theorem cellS53_0 {W : World} {g : Nat} {f0 : Int} {f1 : Int} {f2 : List Int} (h : W.heap[g]? = some (.cells (Value.int .i64 f0 :: Value.int .i64 f1 :: f2.map (Value.int .i64)).toArray 53 (0,0))) : W.cell? ⟨g,0,none⟩ = some (.int .i64 f0):=(blk_cell h 0).trans (by simp)
theorem cellS53_1 {W : World} {g : Nat} {f0 : Int} {f1 : Int} {f2 : List Int} (h : W.heap[g]? = some (.cells (Value.int .i64 f0 :: Value.int .i64 f1 :: f2.map (Value.int .i64)).toArray 53 (0,0))) : W.cell? ⟨g,1,none⟩ = some (.int .i64 f1):=(blk_cell h 1).trans (by simp)
theorem IsS53.len {w0 W : World} {g : Nat} {f0 : Int} {f1 : Int} {f2 : List Int} (h : IsS53 w0 W g f0 f1 f2) : 16 = f2.length:=h.2.2.symm
theorem IsS53.row {w0 W : World} {g : Nat} {f0 : Int} {f1 : Int} {f2 : List Int} (h : IsS53 w0 W g f0 f1 f2) : Kd.C (Kd.int .i64) W (some ⟨g,2,none⟩) f2.length f2:=by
 obtain ⟨hb,hg,hl⟩:=h
 refine ⟨rfl,by omega,fun _ => ⟨_,rfl,fun j p hj => ⟨[.int .i64 p],rfl,rfl,fun i u hi => ?_⟩⟩⟩
 obtain ⟨rfl,rfl⟩ : i = 0 ∧ u = .int .i64 p:=by
  cases i with
  | zero => simpa [eq_comm] using hi
  | succ i => simp at hi
 have e : (⟨g,2,none⟩ : Addr).add (j * (Kd.int .i64).sz + 0) = ⟨g,j + 2,none⟩:=by
  show (⟨g,2,none⟩ : Addr).add (j * 1 + 0) = _
  unfold Addr.add
  split <;> simp_all [Nat.add_comm]
 rw [e,blk_cell hb]
 simp [hj]
theorem copyS53_step {P : Program} {ops : Array Oper} {o : Oper} {a : Act} {Kc : Act → World → Prop} {Q : Exit → Act → World → Prop} {E : Prop} {w0 W : World} {g : Nat} {f0 : Int} {f1 : Int} {f2 : List Int} (hgd : o.guard = none) (d s : Operand) (dT sT el : TypeId)
  (ho : o.op = .call { callee:=.builtin .copy,args:=#[d,s],argTypes:=#[dT,sT] }) (hu : P.underlying dT = some (.slice el)) (hsz : (P.info? el).map (·.size) = some 1)
  (dCap sCap n : Nat) (A : Option Addr) (ys : List Int) (hd : a.eval d = .slice (some ⟨g,2,none⟩) 16 dCap) (hs : a.eval s = .slice A n sCap)
  (hI : IsS53 w0 W g f0 f1 f2) (hB : Below w0.heap.size w0 W) (HR : Kd.C (Kd.int .i64) W A n ys)
  (h : ∀ w',IsS53 w0 w' g f0 f1 (ys.take 16 ++ f2.drop ys.length) → Below w0.heap.size w0 w' → KeepBut W w' g none → Kc (a.put o.dst (.int .i64 ((ys.take 16).length : Int))) w') :
  if Region.wanted o (yielded ops a.tmps) = true then Oper.wp P o a W Kc Q else E:=by
 have hw : Region.wanted o (yielded ops a.tmps) = true:=by simp [Region.wanted,hgd]
 rw [if_pos hw]
 obtain ⟨hb,hg,hl⟩:=hI
 have hyn : ys.length = n:=HR.1
 have hkeep : ∀ cs,KeepBut W (W.setRow g cs) g none:=fun cs => ⟨by simp [World.setRow],fun k _ hk _ => setRow_other W g k cs hk⟩
 by_cases h0 : n = 0
 ·obtain rfl : ys = []:=List.eq_nil_of_length_eq_zero (by omega)
  have hrun:=run_copy_none (P:=P) W dT sT o.type el (some ⟨g,2,none⟩) A 16 dCap n sCap hu hsz (by rw [h0];simp)
  unfold Oper.wp
  simp [execOp,ho,resolve,invoke,builtin,hd,hs,hrun,Result.andThen]
  exact h W ⟨by simpa using hb,hg,by simpa using hl⟩ hB (KeepBut.refl W g none)
 ·obtain ⟨ad,rfl,hc⟩:=HR.2.2 (by omega)
  have hcs : ((ys.take 16).map (Value.int .i64)).length = Nat.min n 16:=by simp [hyn,Nat.min_comm]
  have hrun:=run_copy_row (P:=P) W dT sT o.type el g 2 16 dCap ad n sCap (Value.int .i64 f0 :: Value.int .i64 f1 :: f2.map (Value.int .i64)).toArray 53 ((ys.take 16).map (Value.int .i64)) hu hsz hb hcs (by
   intro j v hj
   simp only [List.getElem?_map,Option.map_eq_some_iff] at hj
   obtain ⟨p,hp,rfl⟩:=hj
   have hp2 : ys[j]? = some p:=by
    rw [List.getElem?_take] at hp
    split at hp
    ·exact hp
    ·simp at hp
   obtain ⟨c,hc1,hc2,hc3⟩:=hc j p hp2
   have e1 : c = [.int .i64 p]:=hc2
   subst e1
   have e2:=hc3 0 (.int .i64 p) rfl
   have e3 : j * (Kd.int .i64).sz + 0 = j:=by show j * 1 + 0 = j;omega
   rwa [e3] at e2) (by simp [hl,hyn];omega) (by
   intro v hv
   simp only [List.mem_map] at hv
   obtain ⟨p,_,rfl⟩:=hv
   rfl)
  obtain ⟨row,hrow⟩ : ∃ r,r = (((Value.int .i64 f0 :: Value.int .i64 f1 :: f2.map (Value.int .i64)).toArray.toList.take 2 ++ (ys.take 16).map (Value.int .i64) ++ (Value.int .i64 f0 :: Value.int .i64 f1 :: f2.map (Value.int .i64)).toArray.toList.drop (2 + ((ys.take 16).map (Value.int .i64)).length)).toArray : Array Value):=⟨_,rfl⟩
  rw [← hrow] at hrun
  obtain ⟨m,hm⟩ : ∃ m : Value,m = goInt ((ys.take 16).map (Value.int .i64)).length:=⟨_,rfl⟩
  rw [← hm] at hrun
  unfold Oper.wp
  simp [execOp,ho,resolve,invoke,builtin,hd,hs,hrun,Result.andThen]
  have hm2 : m = .int .i64 ((ys.take 16).length : Int):=by rw [hm,List.length_map];rfl
  rw [hm2]
  refine h _ ⟨?_,hg,?_⟩ (below_setRow hB hg _) (hkeep _)
  ·refine (setRow_heap W g _ _ 53 _ hb).trans ?_
   rw [hrow]
   congr 2
   simp [hyn]
   have key : ∀ x : Nat,List.drop (2 + x) (Value.int .i64 f0 :: Value.int .i64 f1 :: f2.map (Value.int .i64)) = List.drop x (f2.map (Value.int .i64)):=fun x => by
    rw [show 2 + x = x + 1 + 1 by omega]
    rfl
   rw [key]
   by_cases hx : n ≤ 16
   ·first|rw [Nat.min_eq_left hx]|rw [Nat.min_eq_right hx]
   ·rw [List.drop_eq_nil_of_le (by simp [hl];omega),List.drop_eq_nil_of_le (by simp [hl];omega)]
  ·simp [hl,hyn];omega
def resamp_New1.f (a0 : Int) (a1 : Int) : Option (Int × Int × List Int × Int):=(resamp_Good.f a0 a1).bind fun b => if b = true then some (a0,a1,List.replicate 16 0,0) else none
def resamp_New0.f (a0 : Int) (a1 : Int) : Option Int:=(resamp_Good.f a0 a1).bind fun b => if b = true then none else some 1
set_option maxHeartbeats 8000000 in
set_option maxRecDepth 100000 in
theorem resamp_New1.calls (a0 : Int) (a1 : Int) (r1 : Int) (r2 : Int) (r3 : List Int) (r4 : Int) (w0 w : World) (hB : Below w0.heap.size w0 w) (h : resamp_New1.f a0 a1 = some (r1,r2,r3,r4)) :
  Calls Try.prog 12 #[.int .i64 a0,.int .i64 a1] w fun e w' => ∃ g_,e = .returned (.tuple #[.pointer (some ⟨g_,0,none⟩),.int .i64 0]) ∧ IsS53 w0 w' g_ r1 r2 r3 ∧ Below w0.heap.size w0 w' ∧ Below w.heap.size w w' ∧ w.heap.size ≤ g_:=by
 have hu53:=Try.underlying53
 unfold resamp_New1.f at h
 obtain ⟨b,hb0,h⟩:=Option.bind_eq_some_iff.mp h
 cases b with
 | false => simp at h
 | true =>
  simp only [if_true,Option.some.injEq,Prod.mk.injEq] at h
  obtain ⟨rfl,rfl,rfl,rfl⟩:=h
  go_enter Try.func12,Try.ntmps12
  go_wp2_with (first|((with_reducible refine gate_callee (f:=16) rfl ?_);refine goesL_ (some 8) rfl rfl Try.func16 (by kernel_rfl) rfl #[.int .i64 a0,.int .i64 a1] rfl (by (try simp only [List.map_toArray,List.map_cons,List.map_nil]);first|done|rfl|(simp only [List.length_drop,List.length_take];rfl)) ?_;(with_reducible refine (resamp_Good.calls a0 a1 true _ hb0).mono ?_);rintro e w' ⟨rfl,⟨nd,rfl⟩⟩;refine ⟨_,rfl,?_⟩)|((with_reducible refine gate_dst (N:=13) rfl ?_);refine box_event ?hg (N:=13) ?hd (cs:=#[.int .i64 a0,.int .i64 a1,.int .i64 0,.int .i64 0,.int .i64 0,.int .i64 0,.int .i64 0,.int .i64 0,.int .i64 0,.int .i64 0,.int .i64 0,.int .i64 0,.int .i64 0,.int .i64 0,.int .i64 0,.int .i64 0,.int .i64 0,.int .i64 0]) (t:=53) ?hr ?_;(case hd => rfl);(case hg => rfl);(case hr => first|(go_simp;done)|(go_simp;rfl));intro gb hg w1 hbox hb2;have HX:=ak_ hbox;have HY:=ak_ hb2;have HZ:=ak_ hg;clear hbox hb2 hg))
  go_ret2
  exact ⟨_,rfl,⟨HX.out,by rw [HZ.out];exact hB.size,rfl⟩,below_step (pw_below_drewN hB nd) HY.out,below_step (pw_below_drewN (Below.refl _ _) nd) HY.out,Nat.le_of_eq HZ.out.symm⟩
set_option maxHeartbeats 8000000 in
set_option maxRecDepth 100000 in
theorem resamp_New0.calls (a0 : Int) (a1 : Int) (r1 : Int) (w : World) (h : resamp_New0.f a0 a1 = some r1) :
  Calls Try.prog 12 #[.int .i64 a0,.int .i64 a1] w fun e w' => e = .returned (.tuple #[.pointer none,.int .i64 1]) ∧ Drawn0 w w':=by
 unfold resamp_New0.f at h
 obtain ⟨b,hb0,h⟩:=Option.bind_eq_some_iff.mp h
 cases b with
 | true => simp at h
 | false =>
  obtain rfl : 1 = r1:=by simpa using h
  go_enter Try.func12,Try.ntmps12
  go_wp2_with (first|((with_reducible refine gate_callee (f:=16) rfl ?_);refine goesL_ (some 8) rfl rfl Try.func16 (by kernel_rfl) rfl #[.int .i64 a0,.int .i64 a1] rfl (by (try simp only [List.map_toArray,List.map_cons,List.map_nil]);first|done|rfl|(simp only [List.length_drop,List.length_take];rfl)) ?_;(with_reducible refine (resamp_Good.calls a0 a1 false _ hb0).mono ?_);rintro e w' ⟨rfl,⟨nd,rfl⟩⟩;refine ⟨_,rfl,?_⟩))
  go_ret2
  exact ⟨rfl,⟨_,rfl⟩⟩


end Go.Proofs.Ytcicenmmpbgmoaa.P
