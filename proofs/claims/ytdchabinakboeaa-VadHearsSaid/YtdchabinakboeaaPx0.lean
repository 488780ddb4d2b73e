/- The machine side of the laws of one chapter, without conditions: each call of a Go function comes to what the Lean function of its name answers. Written for this claim by a program of the prover. -/
import Derived.Test.YtdchabinakboeaaProg
import Derived.Below
import Derived.Deep.Draws
import Derived.Deep.AppendLies
import Derived.Maps.AppendAt
import Derived.OwnWalk
import Derived.Laws.BytesArg
import Derived.Laws.MakeOwn
import Derived.Laws.OwnMore
import Derived.Deep.OwnRows
import Derived.Tactics
import Derived.Lib.ConvBytes
import Derived.Laws.Slices
import Derived.WalkKit
import Derived.KernelRfl
import Derived.RowKit3
import Derived.Deep.LoopGhost
import Derived.Deep.QuietTactic
import Derived.BigQuiet
import Derived.WideLaws
import Derived.Deep.DeepCutAuto
import Derived.Deep.CutBlock
import Derived.Deep.RegionHeld3
import Derived.Laws.Rows
import Derived.Lib.AppendStr
import Derived.ArgAppend
import Derived.Laws.IdiomCopy
import Derived.OrdersHeld
import Derived.Laws.BitsLemmas
import Derived.RowKit
import Derived.Test.YtdchabinakboeaaWWords
import Derived.Test.YtdchabinakboeaaWLast
import Derived.Test.YtdchabinakboeaaWTab
import Derived.Test.YtdchabinakboeaaWFour
import Derived.Test.YtdchabinakboeaaWQPut
import Derived.Test.YtdchabinakboeaaWApart
import Derived.Test.YtdchabinakboeaaWArr
import Derived.Test.YtdchabinakboeaaWZeros
import Derived.Test.YtdchabinakboeaaWFoot
import Derived.Test.YtdchabinakboeaaWKept
import Derived.Test.YtdchabinakboeaaWShare
import Derived.Test.YtdchabinakboeaaWN
import Derived.Test.YtdchabinakboeaaWFootNe
import Derived.Test.YtdchabinakboeaaWAt
import Derived.Test.YtdchabinakboeaaWEqStruct
import Derived.Test.YtdchabinakboeaaWRepsOne
import Derived.Test.YtdchabinakboeaaWInv
import Derived.Test.YtdchabinakboeaaWInvWords
import Derived.Test.YtdchabinakboeaaWGuard
import Derived.Test.YtdchabinakboeaaWNEv
import Derived.Test.YtdchabinakboeaaWMore
namespace Go.Proofs.Ytdchabinakboeaa.P
open Go.RowKit Go.Proofs.YtdchabinakboeaaW.PrintWords Go.Proofs.YtdchabinakboeaaW.PrintLast Go.Proofs.YtdchabinakboeaaW.PrintMore
attribute [local go_sem] max2_int min2_int max_two min_two max_three min_three max_four min_four   -- for this text's walks alone
set_option linter.unusedVariables false
set_option linter.unusedSimpArgs false



def errW : Option Int → Value
 | none => .nilIface
 | some c => .iface 0 (.int .i64 c)
theorem errW_none : errW none = .nilIface:=rfl
theorem errW_some (c : Int) : errW (some c) = .iface 0 (.int .i64 c):=rfl

theorem info2 : (Try.prog.info? 2).map (fun i => (i.zero,i.size,i.bytes)) = some (some (.int .i64 0),1,8):=by kernel_rfl
theorem info3 : (Try.prog.info? 3).map (fun i => (i.zero,i.size,i.bytes)) = some (some (.int .i64 0),1,8):=by kernel_rfl
theorem info4 : (Try.prog.info? 4).map (fun i => (i.zero,i.size,i.bytes)) = some (some (.bool false),1,1):=by kernel_rfl
theorem info28 : (Try.prog.info? 28).map (fun i => (i.zero,i.size,i.bytes)) = some (some (.slice none 0 0),1,24):=by kernel_rfl
-- the values' own types
def rd_L1 (xs : List (List Int)) (i : Int) : (List Int):=xs.getD i.toNat ([] : List Int)
theorem at_L1 {w : World} {A : Option Addr} {n : Nat} {xs : List (List Int)} (h : Kd.C (Kd.slice 2 (Kd.int .i64)) w A n xs) (i : Int) (h0 : 0 ≤ i) (h1 : i < n) : ∃ ad A0 c0,A = some ad ∧ w.cell? (ad.add i.toNat) = some (.slice A0 (rd_L1 xs i).length c0) ∧ (rd_L1 xs i).length ≤ c0 ∧ (Kd.int .i64).C w A0 (rd_L1 xs i).length (rd_L1 xs i):=by
 obtain ⟨ad,c,e,_,hK,hc0⟩:=Kd.C_get h ([] : List Int) i h0 h1
 have hc : ∀ j u,c[j]? = some u → w.cell? (ad.add (i.toNat * 1 + j)) = some u:=hc0
 obtain ⟨A0,c0,rfl,l0,g0⟩:=hK
 exact ⟨ad,A0,c0,e,by have hq:=hc 0 _ rfl;rwa [Nat.mul_one,Nat.add_zero] at hq,l0,g0⟩

theorem far_L1 {W : World} {g : Nat} {A : Option Addr} {n : Nat} {xs : List (List Int)} (h : ∀ W',KeepBut W W' g none → Kd.C (Kd.slice 2 (Kd.int .i64)) W' A n xs) (i : Int) (h0 : 0 ≤ i) (h1 : i < n) {ad : Addr} (hA : A = some ad) {A0 : Option Addr} {m c0 : Nat} (hx : W.cell? (ad.add i.toNat) = some (.slice A0 m c0)) : ∀ b,A0 = some b → 0 < (rd_L1 xs i).length → b.block ≠ g:=by
 subst hA
 intro b hb hlen he
 have hne : ad.block ≠ g:=Kd.foot_ne h (by omega) (by decide)
 obtain ⟨W',e1,e2,e3⟩:=Kd.emptied_at W g
 have hk : KeepBut W W' g none:=⟨Nat.le_of_eq e1.symm,fun k _ hk _ => e2 k hk⟩
 obtain ⟨ad',A0',c0',e,hx',hl,hi⟩:=at_L1 (h W' hk) i h0 h1
 injection e with e
 subst e
 have hc : W'.cell? (ad.add i.toNat) = W.cell? (ad.add i.toNat):=by
  have hb_ : (ad.add i.toNat).block = ad.block:=by rw [add_block]
  simp only [World.cell?,hb_,e2 _ hne]
 rw [hc,hx] at hx'
 injection hx' with hx'
 injection hx' with hA' _ _
 subst hA'
 subst hb
 exact Kd.C_not_empty hi hlen (by decide) (e3 b he)
theorem ak_ {p : Prop} (h : p) : Aside0 p := Aside0.mk h
abbrev ra_ := @Kd.R_alloc
abbrev rb_ := @Kd.R_drewN
abbrev rc_ := @Kd.R_drew
abbrev ba_ := @below_alloc
abbrev bb_ := @pw_below_drewN
abbrev bc_ := @below_drew1
section
variable {P : Program} {ops : Array Oper} {Q : Exit → Act → World → Prop}
theorem goesC_ {rest : List Oper} {oi : Oper} {a : Act} {w : World} {f : FuncId} {s : Nat} {first : Array Value} (hv : a.eval (.tmp s) = .func (.func f) first #[]) (N : Option Tmp) (hd : oi.dst = N) (hg : oi.guard = none) {fn : Func} {xs : Array Operand} {ts : Array TypeId} (hf : P.funcs[f]? = some fn) (hname : (fn.name == "runtime.NumGoroutine") = false) (hb : fn.body.isSome = true) (args : Array Value)
  (hop : oi.op = .call { callee:=.value (.tmp s),args:=xs,argTypes:=ts }) (hargs : first ++ xs.map a.eval = args)
  (h : Calls P f args w fun e w' => ∃ v,e = .returned v ∧ wpList P ops Q rest (a.put N v) w') : wpList P ops Q (oi :: rest) a w:=by
 refine wpList_plain hg fun K hK => ?_
 have he:=enters_ hf hname hb args w
 have hrun : (execOp a.eval oi).run P w = .ok (.enter f args) w:=by
  unfold execOp
  simp [hop,resolve,Deferred.ofValue,invoke,hv,hargs,he]
 unfold Oper.wp
 rw [hrun,Oper.upon_enter]
 refine h.mono fun e w'' hh => ?_
 obtain ⟨v,rfl,hk⟩:=hh
 subst hd
 exact hK _ _ hk
end

end Go.Proofs.Ytdchabinakboeaa.P
