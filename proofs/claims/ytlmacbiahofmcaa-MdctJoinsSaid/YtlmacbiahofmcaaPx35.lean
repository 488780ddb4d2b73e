/- The machine side of the laws of one chapter, without conditions: each call of a Go function comes to what the Lean function of its name answers. Written for this claim by a program of the prover. -/
import Derived.Test.YtlmacbiahofmcaaPx0
namespace Go.Proofs.Ytlmacbiahofmcaa.P
open Go.RowKit Go.Proofs.YtlmacbiahofmcaaW.PrintWords Go.Proofs.YtlmacbiahofmcaaW.PrintLast Go.Proofs.YtlmacbiahofmcaaW.PrintMore
attribute [local go_sem] max2_int min2_int max_two min_two max_three min_three max_four min_four   -- for this text's walks alone
set_option linter.unusedVariables false
set_option linter.unusedSimpArgs false

/-! ### madrigalref10_NewJoiner: function 21 -/
/-- A state of type 55 at block g of W: its block alone, its slice's value named. -/
def IsS55v (vv : Value) (w0 W : World) (g : Nat) (f0 : Int) (f1 : List Int) : Prop:=W.heap[g]? = some (.cells #[.int .i64 f0,vv] 55 (0,0)) ∧ w0.heap.size ≤ g ∧ f1 = f1
/-- A state of type 55 at block g of W, with a list in a block of its own. -/
def IsS55 (w0 W : World) (g : Nat) (f0 : Int) (f1 : List Int) : Prop:=∃ vv,IsS55v vv w0 W g f0 f1 ∧ (Kd.int .i64).Q 2 W w0.heap.size (fun _ => True) vv f1
theorem IsS55v.grown {w0 W : World} {g : Nat} {vv : Value} {f0 : Int} {f1 : List Int} {W1 : World} {row : Option Nat} (h : IsS55v vv w0 W g f0 f1) (hw : W.grownBy W1 row) (hne : some g ≠ row) : IsS55v vv w0 W1 g f0 f1:=by
 obtain ⟨hb,hg,hl⟩:=h
 exact ⟨blk_grown hb hw hne,hg,hl⟩
theorem IsS55v.kept {w0 W : World} {g : Nat} {vv : Value} {f0 : Int} {f1 : List Int} {W1 : World} {S : Nat → Prop} (h : IsS55v vv w0 W g f0 f1) (hk : Kept W W1 S) (hne : ¬ S g) : IsS55v vv w0 W1 g f0 f1:=by
 obtain ⟨hb,hg,hl⟩:=h
 exact ⟨blk_kept hb hk hne,hg,hl⟩
theorem IsS55v.keepB {w0 W : World} {g : Nat} {vv : Value} {f0 : Int} {f1 : List Int} {W1 : World} {g2 : Nat} (h : IsS55v vv w0 W g f0 f1) (hk : KeepBut W W1 g2 none) (hne : g ≠ g2) : IsS55v vv w0 W1 g f0 f1:=by
 obtain ⟨hb,hg,hl⟩:=h
 exact ⟨KeepBut.blk (g:=g2) hk hb hne (by simp),hg,hl⟩
theorem IsS55v.far {w0 W : World} {g : Nat} {vv : Value} {f0 : Int} {f1 : List Int} {p : Addr} (h : IsS55v vv w0 W g f0 f1) (hne : g ≠ p.block) (u : Value) : IsS55v vv w0 (W.setCell p u) g f0 f1:=by
 obtain ⟨hb,hg,hl⟩:=h
 exact ⟨blk_far hb hne u,hg,hl⟩
theorem IsS55v.below {w0 W : World} {g : Nat} {vv : Value} {f0 : Int} {f1 : List Int} {W1 : World} (h : IsS55v vv w0 W g f0 f1) (hw : Below W.heap.size W W1) : IsS55v vv w0 W1 g f0 f1:=h.grown (grown_of_below hw none) (by simp)
theorem IsS55v.ge {w0 W : World} {g : Nat} {vv : Value} {f0 : Int} {f1 : List Int} (h : IsS55v vv w0 W g f0 f1) : w0.heap.size ≤ g:=h.2.1
theorem IsS55v.full {w0 W : World} {g : Nat} {vv : Value} {f0 : Int} {f1 : List Int} (h : IsS55v vv w0 W g f0 f1) (hq : (Kd.int .i64).Q 2 W w0.heap.size (fun _ => True) vv f1) : IsS55 w0 W g f0 f1:=⟨vv,h,hq⟩
theorem IsS55v.back {w0 W : World} {g : Nat} {vv : Value} {f0 : Int} {f1 : List Int} {w : World} (h : IsS55v vv w0 W g f0 f1) (h0 : IsS55v vv w0 w g f0 f1) (hq : (Kd.int .i64).Q 2 w w0.heap.size (fun _ => True) vv f1) (hk : KeepBut w W g none) : IsS55 w0 W g f0 f1:=⟨vv,h,Kd.Q_mono (Kd.Q_keep (Kd.Q_types hq h0.1 (by decide)) hk (fun _ h => h.2)) (fun _ h => h.1)⟩
theorem IsS55v.fresh {w0 W : World} {g : Nat} {vv : Value} {f0 : Int} {f1 : List Int} (h : IsS55v vv w0 W g f0 f1) : ∀ k,W.heap.size ≤ k → k ≠ g:=by
 obtain ⟨hb,hg,hl⟩:=h
 exact Kd.freshB hb
theorem IsS55v.alloc {w0 W : World} {g : Nat} {vv : Value} {f0 : Int} {f1 : List Int} (h : IsS55v vv w0 W g f0 f1) (o : Obj) : IsS55v vv w0 (W.alloc o) g f0 f1:=h.below (below_alloc (Below.refl _ _) o)
theorem IsS55v.drewN {w0 W : World} {g : Nat} {vv : Value} {f0 : Int} {f1 : List Int} (h : IsS55v vv w0 W g f0 f1) (m : Nat) : IsS55v vv w0 (W.drewN m) g f0 f1:=h.below (pw_below_drewN (Below.refl _ _) m)
theorem IsS55v.drew {w0 W : World} {g : Nat} {vv : Value} {f0 : Int} {f1 : List Int} (h : IsS55v vv w0 W g f0 f1) : IsS55v vv w0 W.drew g f0 f1:=h.below (below_drew1 (Below.refl _ _))
theorem IsS55v.at_ {w0 W : World} {g : Nat} {vv : Value} {f0 : Int} {f1 : List Int} {w' : World} {m : Nat} (hq : W.drewN m = w') (h : IsS55v vv w0 W g f0 f1) : IsS55v vv w0 w' g f0 f1:=by subst hq;exact IsS55v.drewN h m
theorem IsS55v.apart {w0 W : World} {g : Nat} {vv : Value} {f0 : Int} {f1 : List Int} {α : Type} {d : Kd α} {e : Nat} {base : Nat} {ok : Nat → Prop} {v : Value} {xs : List α} (h : IsS55v vv w0 W g f0 f1) (ho : d.R e W base ok v xs) (ht : ∀ q,q ∈ e :: d.E → q ≠ 55) : d.R e W base (fun k => ok k ∧ k ≠ g) v xs:=by
 obtain ⟨hb,hg,hl⟩:=h
 exact Kd.R_types ho hb ht
theorem IsS55v.apartQ {w0 W : World} {g : Nat} {vv : Value} {f0 : Int} {f1 : List Int} {α : Type} {d : Kd α} {e : Nat} {base : Nat} {ok : Nat → Prop} {v : Value} {xs : List α} (h : IsS55v vv w0 W g f0 f1) (ho : d.Q e W base ok v xs) (ht : ∀ q,q ∈ e :: d.E → q ≠ 55) : d.Q e W base (fun k => ok k ∧ k ≠ g) v xs:=by
 obtain ⟨hb,hg,hl⟩:=h
 exact Kd.Q_types ho hb ht
theorem IsS55v.apartS {w0 W : World} {g : Nat} {vv : Value} {f0 : Int} {f1 : List Int} {α : Type} {d : Kd α} {e : Nat} {base : Nat} {ok : Nat → Prop} {v : Value} {xs : List α} (h : IsS55v vv w0 W g f0 f1) (ho : d.S e W base ok v xs) (ht : ∀ q,q ∈ e :: d.E → q ≠ 55) : d.S e W base (fun k => ok k ∧ k ≠ g) v xs:=by
 obtain ⟨hb,hg,hl⟩:=h
 exact Kd.S_types ho hb ht
theorem IsS55v.own_ne {w0 W : World} {g : Nat} {vv : Value} {f0 : Int} {f1 : List Int} {α : Type} {d : Kd α} {e : Nat} {base : Nat} {ok : Nat → Prop} {v : Value} {xs : List α} (h : IsS55v vv w0 W g f0 f1) (ho : d.R e W base ok v xs) (ht : e ≠ 55) : some g ≠ v.ownBlock:=by
 obtain ⟨hb,hg,hl⟩:=h
 exact Kd.R_ne ho hb ht
theorem IsS55v.own_neQ {w0 W : World} {g : Nat} {vv : Value} {f0 : Int} {f1 : List Int} {α : Type} {d : Kd α} {e : Nat} {base : Nat} {ok : Nat → Prop} {v : Value} {xs : List α} (h : IsS55v vv w0 W g f0 f1) (ho : d.Q e W base ok v xs) (ht : e ≠ 55) : some g ≠ v.ownBlock:=by
 obtain ⟨hb,hg,hl⟩:=h
 exact Kd.Q_ne ho hb ht
theorem IsS55v.own_neS {w0 W : World} {g : Nat} {vv : Value} {f0 : Int} {f1 : List Int} {α : Type} {d : Kd α} {e : Nat} {base : Nat} {ok : Nat → Prop} {v : Value} {xs : List α} (h : IsS55v vv w0 W g f0 f1) (ho : d.S e W base ok v xs) (ht : e ≠ 55) : some g ≠ v.ownBlock:=by
 obtain ⟨hb,hg,hl⟩:=h
 exact Kd.S_ne ho hb ht
theorem IsS55v.own_neN {w0 W : World} {g : Nat} {vv : Value} {f0 : Int} {f1 : List Int} {α : Type} {d : Kd α} {e : Nat} {base : Nat} {ok : Nat → Prop} {v : Value} {xs : List α} (h : IsS55v vv w0 W g f0 f1) (ho : Kd.N d e W base ok v xs) (ht : e ≠ 55) : some g ≠ v.ownBlock:=by
 obtain ⟨hb,hg,hl⟩:=h
 exact Kd.N_ne ho hb ht
theorem IsS55v.lt {w0 W : World} {g : Nat} {vv : Value} {f0 : Int} {f1 : List Int} (h : IsS55v vv w0 W g f0 f1) : g < W.heap.size:=by
 obtain ⟨hb,hg,hl⟩:=h
 exact blk_lt hb
theorem IsS55v.ne_blk {w0 W : World} {g : Nat} {vv : Value} {f0 : Int} {f1 : List Int} {a : Nat} {cs : Array Value} {t : TypeId} {fr : Nat × Nat} (h : IsS55v vv w0 W g f0 f1) (hb2 : W.heap[a]? = some (.cells cs t fr)) (ht : t ≠ 55) : g ≠ a:=by
 obtain ⟨hb,hg,hl⟩:=h
 rintro rfl
 rw [hb] at hb2
 injection hb2 with hb2
 injection hb2 with _ ht2
 exact ht ht2.symm
theorem IsS55.below {w0 W : World} {g : Nat} {f0 : Int} {f1 : List Int} {W1 : World} (h : IsS55 w0 W g f0 f1) (hw : Below W.heap.size W W1) : IsS55 w0 W1 g f0 f1:=by
 obtain ⟨vv,⟨hb,hg,hl⟩,hq⟩:=h
 exact ⟨vv,IsS55v.below ⟨hb,hg,hl⟩ hw,Kd.Q_below hq hw⟩
theorem IsS55.keepB {w0 W : World} {g : Nat} {f0 : Int} {f1 : List Int} {W1 : World} {g2 : Nat} (h : IsS55 w0 W g f0 f1) (hk : KeepBut W W1 g2 none) (hne : g ≠ g2) (h2 : ∃ cs T,W.heap[g2]? = some (.cells cs T (0,0)) ∧ T ≠ 2) : IsS55 w0 W1 g f0 f1:=by
 obtain ⟨vv,⟨hb,hg,hl⟩,hq⟩:=h
 obtain ⟨cs,T,hb2,hT⟩:=h2
 exact ⟨vv,IsS55v.keepB ⟨hb,hg,hl⟩ hk hne,Kd.Q_mono (Kd.Q_keep (Kd.Q_types hq hb2 (by intro q hm e_;rcases List.mem_cons.mp hm with rfl|h';exact hT e_.symm;exact absurd h' (by simp [Kd.int,Kd.scalar]))) hk (fun _ h => h.2)) (fun _ h => h.1)⟩
theorem IsS55.typ {w0 W : World} {g : Nat} {f0 : Int} {f1 : List Int} (h : IsS55 w0 W g f0 f1) : ∃ cs T,W.heap[g]? = some (.cells cs T (0,0)) ∧ T ≠ 2:=by
 obtain ⟨vv,⟨hb,hg,hl⟩,hq⟩:=h
 exact ⟨_,_,hb,by decide⟩
theorem IsS55.ge {w0 W : World} {g : Nat} {f0 : Int} {f1 : List Int} (h : IsS55 w0 W g f0 f1) : w0.heap.size ≤ g:=by
 obtain ⟨vv,⟨hb,hg,hl⟩,hq⟩:=h
 exact hg
theorem IsS55.fresh {w0 W : World} {g : Nat} {f0 : Int} {f1 : List Int} (h : IsS55 w0 W g f0 f1) : ∀ k,W.heap.size ≤ k → k ≠ g:=by
 obtain ⟨vv,⟨hb,hg,hl⟩,hq⟩:=h
 exact Kd.freshB hb
theorem IsS55.alloc {w0 W : World} {g : Nat} {f0 : Int} {f1 : List Int} (h : IsS55 w0 W g f0 f1) (o : Obj) : IsS55 w0 (W.alloc o) g f0 f1:=h.below (below_alloc (Below.refl _ _) o)
theorem IsS55.drewN {w0 W : World} {g : Nat} {f0 : Int} {f1 : List Int} (h : IsS55 w0 W g f0 f1) (m : Nat) : IsS55 w0 (W.drewN m) g f0 f1:=h.below (pw_below_drewN (Below.refl _ _) m)
theorem IsS55.drew {w0 W : World} {g : Nat} {f0 : Int} {f1 : List Int} (h : IsS55 w0 W g f0 f1) : IsS55 w0 W.drew g f0 f1:=h.below (below_drew1 (Below.refl _ _))
theorem IsS55.at_ {w0 W : World} {g : Nat} {f0 : Int} {f1 : List Int} {w' : World} {m : Nat} (hq : W.drewN m = w') (h : IsS55 w0 W g f0 f1) : IsS55 w0 w' g f0 f1:=by subst hq;exact IsS55.drewN h m
theorem IsS55.apart {w0 W : World} {g : Nat} {f0 : Int} {f1 : List Int} {α : Type} {d : Kd α} {e : Nat} {base : Nat} {ok : Nat → Prop} {v : Value} {xs : List α} (h : IsS55 w0 W g f0 f1) (ho : d.R e W base ok v xs) (ht : ∀ q,q ∈ e :: d.E → q ≠ 55) : d.R e W base (fun k => ok k ∧ k ≠ g) v xs:=by
 obtain ⟨vv,⟨hb,hg,hl⟩,hq⟩:=h
 exact Kd.R_types ho hb ht
theorem IsS55.apartQ {w0 W : World} {g : Nat} {f0 : Int} {f1 : List Int} {α : Type} {d : Kd α} {e : Nat} {base : Nat} {ok : Nat → Prop} {v : Value} {xs : List α} (h : IsS55 w0 W g f0 f1) (ho : d.Q e W base ok v xs) (ht : ∀ q,q ∈ e :: d.E → q ≠ 55) : d.Q e W base (fun k => ok k ∧ k ≠ g) v xs:=by
 obtain ⟨vv,⟨hb,hg,hl⟩,hq⟩:=h
 exact Kd.Q_types ho hb ht
theorem IsS55.apartS {w0 W : World} {g : Nat} {f0 : Int} {f1 : List Int} {α : Type} {d : Kd α} {e : Nat} {base : Nat} {ok : Nat → Prop} {v : Value} {xs : List α} (h : IsS55 w0 W g f0 f1) (ho : d.S e W base ok v xs) (ht : ∀ q,q ∈ e :: d.E → q ≠ 55) : d.S e W base (fun k => ok k ∧ k ≠ g) v xs:=by
 obtain ⟨vv,⟨hb,hg,hl⟩,hq⟩:=h
 exact Kd.S_types ho hb ht
theorem IsS55.own_ne {w0 W : World} {g : Nat} {f0 : Int} {f1 : List Int} {α : Type} {d : Kd α} {e : Nat} {base : Nat} {ok : Nat → Prop} {v : Value} {xs : List α} (h : IsS55 w0 W g f0 f1) (ho : d.R e W base ok v xs) (ht : e ≠ 55) : some g ≠ v.ownBlock:=by
 obtain ⟨vv,⟨hb,hg,hl⟩,hq⟩:=h
 exact Kd.R_ne ho hb ht
theorem IsS55.own_neQ {w0 W : World} {g : Nat} {f0 : Int} {f1 : List Int} {α : Type} {d : Kd α} {e : Nat} {base : Nat} {ok : Nat → Prop} {v : Value} {xs : List α} (h : IsS55 w0 W g f0 f1) (ho : d.Q e W base ok v xs) (ht : e ≠ 55) : some g ≠ v.ownBlock:=by
 obtain ⟨vv,⟨hb,hg,hl⟩,hq⟩:=h
 exact Kd.Q_ne ho hb ht
theorem IsS55.own_neS {w0 W : World} {g : Nat} {f0 : Int} {f1 : List Int} {α : Type} {d : Kd α} {e : Nat} {base : Nat} {ok : Nat → Prop} {v : Value} {xs : List α} (h : IsS55 w0 W g f0 f1) (ho : d.S e W base ok v xs) (ht : e ≠ 55) : some g ≠ v.ownBlock:=by
 obtain ⟨vv,⟨hb,hg,hl⟩,hq⟩:=h
 exact Kd.S_ne ho hb ht
theorem IsS55.own_neN {w0 W : World} {g : Nat} {f0 : Int} {f1 : List Int} {α : Type} {d : Kd α} {e : Nat} {base : Nat} {ok : Nat → Prop} {v : Value} {xs : List α} (h : IsS55 w0 W g f0 f1) (ho : Kd.N d e W base ok v xs) (ht : e ≠ 55) : some g ≠ v.ownBlock:=by
 obtain ⟨vv,⟨hb,hg,hl⟩,hq⟩:=h
 exact Kd.N_ne ho hb ht
theorem IsS55.lt {w0 W : World} {g : Nat} {f0 : Int} {f1 : List Int} (h : IsS55 w0 W g f0 f1) : g < W.heap.size:=by
 obtain ⟨vv,⟨hb,hg,hl⟩,hq⟩:=h
 exact blk_lt hb
theorem IsS55.ne_blk {w0 W : World} {g : Nat} {f0 : Int} {f1 : List Int} {a : Nat} {cs : Array Value} {t : TypeId} {fr : Nat × Nat} (h : IsS55 w0 W g f0 f1) (hb2 : W.heap[a]? = some (.cells cs t fr)) (ht : t ≠ 55) : g ≠ a:=by
 obtain ⟨vv,⟨hb,hg,hl⟩,hq⟩:=h
 rintro rfl
 rw [hb] at hb2
 injection hb2 with hb2
 injection hb2 with _ ht2
 exact ht ht2.symm
theorem cellS55_0 {W : World} {g : Nat} {vv : Value} {f0 : Int} (h : W.heap[g]? = some (.cells #[.int .i64 f0,vv] 55 (0,0))) : W.cell? ⟨g,0,none⟩ = some (.int .i64 f0):=(blk_cell h 0).trans (by simp)
theorem cellS55_1 {W : World} {g : Nat} {vv : Value} {f0 : Int} (h : W.heap[g]? = some (.cells #[.int .i64 f0,vv] 55 (0,0))) : W.cell? ⟨g,1,none⟩ = some vv:=(blk_cell h 1).trans (by simp)
theorem IsS55v.put {w0 W : World} {g : Nat} {vv : Value} {f0 : Int} {f1 : List Int} {v : Value} {xs : List Int} (h : IsS55v vv w0 W g f0 f1) (HQ : (Kd.int .i64).Q 2 W w0.heap.size (fun _ => True) v xs) : IsS55 w0 (W.setCell ⟨g,1,none⟩ v) g f0 xs:=by
 have hQ2:=Kd.Q_types HQ h.1 (by decide)
 obtain ⟨hb,hg,hl⟩:=h
 exact ⟨v,⟨by simpa using blk_set hb 1 v,hg,rfl⟩,Kd.Q_mono (Kd.Q_far hQ2 (fun _ h => h.2) v) (fun _ h => h.1)⟩
def madrigalref10_NewJoiner.f (a0 : Int) (a1 : Int) : Option (Int × List Int):=if 0 ≤ a0 then (if a0.toNat ≤ 35184372088832 then some (a1,List.replicate a0.toNat 0) else none) else none
set_option maxHeartbeats 8000000 in
set_option maxRecDepth 100000 in
theorem madrigalref10_NewJoiner.calls (a0 : Int) (a1 : Int) (r1 : Int) (r2 : List Int) (w0 w : World) (hB : Below w0.heap.size w0 w) (h : madrigalref10_NewJoiner.f a0 a1 = some (r1,r2)) :
  Calls Try.prog 21 #[.int .i64 a0,.int .i64 a1] w fun e w' => ∃ g_,e = .returned (.pointer (some ⟨g_,0,none⟩)) ∧ IsS55 w0 w' g_ r1 r2 ∧ Below w0.heap.size w0 w' ∧ Below w.heap.size w w' ∧ w.heap.size ≤ g_:=by
 have hu55:=Try.underlying55
 unfold madrigalref10_NewJoiner.f at h
 by_cases h0 : 0 ≤ a0
 case neg => simp [h0] at h
 by_cases h1 : a0.toNat ≤ 35184372088832
 case neg => simp [h0,h1] at h
 simp only [if_true,h0,h1,Option.some.injEq,Prod.mk.injEq] at h
 obtain ⟨rfl,rfl⟩:=h
 go_enter Try.func21,Try.ntmps21
 go_wp2_with (first|((with_reducible refine gate_dst (N:=7) rfl ?_);refine Kd.R_make (Kd.int .i64) _ 2 rfl (N:=7) rfl 23 _ _ rfl a0 rfl rfl Try.underlying23 (.int .i64 0) 8 info2 rfl (by decide) (by omega) 0 (ok:=fun _ => True) (okp:=fun _ => True) rfl (fun _ hk => hk) trivial h0 (Nat.le_trans (Nat.mul_le_mul_right _ h1) (by omega)) (Below.refl _ _) (Nat.le_refl _) ?_;intro v6 w6 ho6 hb6 hg_ hnew_;clear hg_ hnew_;obtain ⟨A6,c6,e6⟩:=Kd.R_slice ho6;subst e6;have HM:=ak_ ho6;have HN:=ak_ hb6;clear ho6 hb6)|((with_reducible refine gate_dst (N:=9) rfl ?_);refine box_event ?hg (N:=9) ?hd (cs:=#[.int .i64 a1,.slice A6 (List.replicate a0.toNat (0 : Int)).length c6]) (t:=55) ?hr ?_;(case hd => rfl);(case hg => rfl);(case hr => first|(go_simp;done)|(go_simp;rfl));intro gb hg w1 hbox hb2;have HX:=ak_ hbox;have HY:=ak_ hb2;have HZ:=ak_ hg;clear hbox hb2 hg))
 go_ret
 have hQ:=Kd.Q_below (Kd.Q_of_R HM.out) HY.out
 have hw : w.heap.size ≤ w6.heap.size:=HN.out.size
 refine ⟨_,rfl,⟨_,⟨HX.out,Nat.le_trans hB.size (Nat.le_trans hw (Nat.le_of_eq HZ.out.symm)),rfl⟩,Kd.Q_lower hQ hB.size⟩,below_step (below_step hB HN.out) HY.out,below_step HN.out HY.out,Nat.le_trans hw (Nat.le_of_eq HZ.out.symm)⟩


end Go.Proofs.Ytlmacbiahofmcaa.P
