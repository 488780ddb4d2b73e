/- The machine side of the laws of one chapter, without conditions: each call of a Go function comes to what the Lean function of its name answers. Written for this claim by a program of the prover. -/
import Derived.Test.YtllglpcpjeggcaaProg
import Derived.Below
import Derived.Deep.Draws
import Derived.Deep.AppendLies
import Derived.Maps.AppendAt
import Derived.OwnWalk
import Derived.Laws.BytesArg
import Derived.Laws.MakeOwn
import Derived.Laws.OwnMore
import Derived.Deep.OwnRows
import Derived.Tactics
import Derived.Lib.ConvBytes
import Derived.Laws.Slices
import Derived.WalkKit
import Derived.KernelRfl
import Derived.RowKit3
import Derived.Deep.LoopGhost
import Derived.Deep.QuietTactic
import Derived.BigQuiet
import Derived.WideLaws
import Derived.Deep.DeepCutAuto
import Derived.Deep.CutBlock
import Derived.Deep.RegionHeld3
import Derived.Laws.Rows
import Derived.Lib.AppendStr
import Derived.ArgAppend
import Derived.Laws.IdiomCopy
import Derived.OrdersHeld
import Derived.Laws.BitsLemmas
import Derived.RowKit
import Derived.Test.YtllglpcpjeggcaaV0
namespace Go.Proofs.Ytllglpcpjeggcaa.P
open Go.RowKit Go.Proofs.YtllglpcpjeggcaaW.PrintWords Go.Proofs.YtllglpcpjeggcaaW.PrintLast Go.Proofs.YtllglpcpjeggcaaW.PrintMore
attribute [local go_sem] max2_int min2_int max_two min_two max_three min_three max_four min_four   -- for this text's walks alone
set_option linter.unusedVariables false
set_option linter.unusedSimpArgs false



def errW : Option Int → Value
 | none => .nilIface
 | some c => .iface 0 (.int .i64 c)
theorem errW_none : errW none = .nilIface:=rfl
theorem errW_some (c : Int) : errW (some c) = .iface 0 (.int .i64 c):=rfl

theorem info2 : (Try.prog.info? 2).map (fun i => (i.zero,i.size,i.bytes)) = some (some (.int .i64 0),1,8):=by kernel_rfl
theorem info3 : (Try.prog.info? 3).map (fun i => (i.zero,i.size,i.bytes)) = some (some (.int .i64 0),1,8):=by kernel_rfl
-- the values' own types
theorem ak_ {p : Prop} (h : p) : Aside0 p := Aside0.mk h
abbrev ra_ := @Kd.R_alloc
abbrev rb_ := @Kd.R_drewN
abbrev rc_ := @Kd.R_drew
abbrev ba_ := @below_alloc
abbrev bb_ := @pw_below_drewN
abbrev bc_ := @below_drew1
section
variable {P : Program} {ops : Array Oper} {Q : Exit → Act → World → Prop}
theorem clear_cells {k : IntKind} {e base g cap : Nat} {ok : Nat → Prop} : ∀ (m i : Nat) (W : World) (xs : List Int),(Kd.int k).R e W base ok (.slice (some ⟨g,0,none⟩) xs.length cap) xs → i + m = xs.length →
  ∃ w1,(storeCells ⟨g,0,none⟩ (List.replicate m (.int k 0)) i).run P W = .ok () w1 ∧ W.grownBy w1 (some g) ∧ (Kd.int k).R e w1 base ok (.slice (some ⟨g,0,none⟩) xs.length cap) (xs.take i ++ List.replicate m 0)
 | 0,i,W,xs,h,hi => by
  refine ⟨W,rfl,World.grownBy.refl _ _,?_⟩
  rw [List.take_of_length_le (by omega)]
  simpa using h
 | m + 1,i,W,xs,h,hi => by
  obtain ⟨hc,hf⟩:=Kd.R_cell 0 h (i : Int) (by omega) (by omega)
  obtain ⟨hp,hg⟩:=Kd.R_put h (i : Int) 0
  rw [Int.toNat_natCast] at hc hf hp hg
  have ha : (⟨g,0,none⟩ : Addr).add i = ⟨g,i,none⟩:=add_plain _ _
  have hrun : (store ((⟨g,0,none⟩ : Addr).add i) (.int k 0)).run P W = .ok () (W.setCell ⟨g,i,none⟩ (.int k 0)):=by
   rw [run_store P W _ _ _ rfl,ha,hc]
   simp only [hf,Bool.false_eq_true,if_false]
  have hl : (xs.set i 0).length = xs.length:=List.length_set
  rw [← hl] at hp
  obtain ⟨w1,hr,hg1,hR⟩:=clear_cells m (i + 1) _ (xs.set i 0) hp (by omega)
  refine ⟨w1,?_,hg.trans hg1,?_⟩
  ·rw [List.replicate_succ]
   show (Sem.run P (do store ((⟨g,0,none⟩ : Addr).add i) (.int k 0);storeCells ⟨g,0,none⟩ (List.replicate m (.int k 0)) (i + 1)) W) = _
   simp only [Sem.run_bind,hrun,Result.andThen]
   exact hr
  ·rw [hl] at hR
   have e1 : (xs.set i 0).take (i + 1) = xs.take i ++ [0]:=by
    rw [List.take_succ_eq_append_getElem (by omega),List.getElem_set_self,List.take_set_of_le (Nat.le_refl _)]
   rw [e1,List.append_assoc] at hR
   simpa [List.replicate_succ] using hR
theorem zeros_list (k : IntKind) (n : Nat) : (Builtin.zeroCells (Value.int k 0).cells n).toList = List.replicate n (.int k 0):=by
 rw [List.eq_replicate_iff]
 refine ⟨by simp [Builtin.zeroCells,Value.cells],fun b hb => ?_⟩
 simp only [Builtin.zeroCells,Value.cells,Array.toList_map,List.mem_map] at hb
 obtain ⟨i,_,rfl⟩:=hb
 have : i % (#[Value.int k 0] : Array Value).size = 0:=Nat.mod_one i
 rw [this]
 rfl
theorem clear_below {k : IntKind} {e : Nat} {ok : Nat → Prop} {v : Value} {xs : List Int} {w W w1 : World} (h : (Kd.int k).R e W w.heap.size ok v xs) (hB : Below w.heap.size w W) (hg : W.grownBy w1 v.ownBlock) : Below w.heap.size w w1 :=
 ⟨hg.os.trans hB.os,hg.tape.trans hB.tape,hg.output.trans hB.output,Nat.le_trans hB.size hg.size,fun i hi => (hg.block i (Nat.lt_of_lt_of_le hi hB.size) (fun e => by have:=Kd.R_base h i e.symm;omega)).trans (hB.block i hi)⟩
theorem R_clear_ev {k : IntKind} {e base : Nat} {t : TypeId} {ok : Nat → Prop} {v : Value} {xs : List Int} {s : Nat} {rest : List Oper} {o : Oper} {a : Act} {W : World}
  (hg : o.guard = none) (hop : o.op = .call { callee:=.builtin .clear,args:=#[.tmp s],argTypes:=#[t] }) (hdst : o.dst = none) (ht : P.underlying t = some (.slice e)) (hz : ∀ w,(zeroValue e).run P w = .ok (.int k 0) w) (hv : a.eval (.tmp s) = v) (h : (Kd.int k).R e W base ok v xs)
  (K : ∀ w1,W.grownBy w1 v.ownBlock → (Kd.int k).R e w1 base ok v (List.replicate xs.length 0) → wpList P ops Q rest a w1) : wpList P ops Q (o :: rest) a W:=by
 subst hv
 have key : ∀ w1,(Builtin.clear_ #[t] o.type #[a.eval (.tmp s)]).run P W = .ok (.tuple #[]) w1 → wpList P ops Q rest a w1 → wpList P ops Q (o :: rest) a W:=by
  intro w1 hrun hk
  refine Kd.event_run hg (v:=.tuple #[]) (w1:=w1) ?_ ?_
  ·unfold execOp
   simp [hop,resolve,invoke,builtin,hrun]
  ·rw [hdst];exact hk
 by_cases hp : 0 < xs.length
 ·obtain ⟨g,cap,he,hb,hl,_⟩:=Kd.R_form h hp
  rw [he] at h K
  obtain ⟨w1,hr,hg1,hR⟩:=clear_cells (P:=P) xs.length 0 W xs h (by omega)
  simp only [List.take_zero,List.nil_append] at hR
  refine key w1 ?_ (K w1 hg1 hR)
  rw [he]
  obtain ⟨n,hn⟩ : ∃ n,xs.length = n + 1:=⟨xs.length - 1,by omega⟩
  rw [hn] at hr ⊢
  simp [Builtin.clear_,run_underlying ht,Result.andThen,hz,zeros_list,hr]
 ·have e0 : xs = []:=List.eq_nil_of_length_eq_zero (by omega)
  subst e0
  obtain ⟨A,c,he⟩:=Kd.R_slice h
  refine key W ?_ (K W (World.grownBy.refl _ _) h)
  rw [he]
  cases A <;> simp [Builtin.clear_,run_underlying ht,Result.andThen]
end

end Go.Proofs.Ytllglpcpjeggcaa.P
