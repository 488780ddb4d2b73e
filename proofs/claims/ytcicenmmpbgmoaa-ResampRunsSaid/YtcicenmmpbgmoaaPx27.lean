/- The machine side of the laws of one chapter, without conditions: each call of a Go function comes to what the Lean function of its name answers. Written for this claim by a program of the prover. -/
import Derived.Test.YtcicenmmpbgmoaaPx0
namespace Go.Proofs.Ytcicenmmpbgmoaa.P
open Go.RowKit Go.Proofs.YtcicenmmpbgmoaaW.PrintWords Go.Proofs.YtcicenmmpbgmoaaW.PrintLast Go.Proofs.YtcicenmmpbgmoaaW.PrintMore
attribute [local go_sem] max2_int min2_int max_two min_two max_three min_three max_four min_four   -- for this text's walks alone
set_option linter.unusedVariables false
set_option linter.unusedSimpArgs false

/-! ### madrigalref10_NewSampler: function 21 -/
/-- A state of type 58 at block g of W: its block alone, its slice's value named. -/
def IsS58v (vv : Value) (w0 W : World) (g : Nat) (f0 : Int) (f1 : Int) (f2 : List Int) : Prop:=W.heap[g]? = some (.cells #[.int .i64 f0,.int .i64 f1,vv] 58 (0,0)) ∧ w0.heap.size ≤ g ∧ f2 = f2
/-- A state of type 58 at block g of W, with a list in a block of its own. -/
def IsS58 (w0 W : World) (g : Nat) (f0 : Int) (f1 : Int) (f2 : List Int) : Prop:=∃ vv,IsS58v vv w0 W g f0 f1 f2 ∧ (Kd.int .i64).Q 2 W w0.heap.size (fun _ => True) vv f2
theorem IsS58v.grown {w0 W : World} {g : Nat} {vv : Value} {f0 : Int} {f1 : Int} {f2 : List Int} {W1 : World} {row : Option Nat} (h : IsS58v vv w0 W g f0 f1 f2) (hw : W.grownBy W1 row) (hne : some g ≠ row) : IsS58v vv w0 W1 g f0 f1 f2:=by
 obtain ⟨hb,hg,hl⟩:=h
 exact ⟨blk_grown hb hw hne,hg,hl⟩
theorem IsS58v.kept {w0 W : World} {g : Nat} {vv : Value} {f0 : Int} {f1 : Int} {f2 : List Int} {W1 : World} {S : Nat → Prop} (h : IsS58v vv w0 W g f0 f1 f2) (hk : Kept W W1 S) (hne : ¬ S g) : IsS58v vv w0 W1 g f0 f1 f2:=by
 obtain ⟨hb,hg,hl⟩:=h
 exact ⟨blk_kept hb hk hne,hg,hl⟩
theorem IsS58v.keepB {w0 W : World} {g : Nat} {vv : Value} {f0 : Int} {f1 : Int} {f2 : List Int} {W1 : World} {g2 : Nat} (h : IsS58v vv w0 W g f0 f1 f2) (hk : KeepBut W W1 g2 none) (hne : g ≠ g2) : IsS58v vv w0 W1 g f0 f1 f2:=by
 obtain ⟨hb,hg,hl⟩:=h
 exact ⟨KeepBut.blk (g:=g2) hk hb hne (by simp),hg,hl⟩
theorem IsS58v.far {w0 W : World} {g : Nat} {vv : Value} {f0 : Int} {f1 : Int} {f2 : List Int} {p : Addr} (h : IsS58v vv w0 W g f0 f1 f2) (hne : g ≠ p.block) (u : Value) : IsS58v vv w0 (W.setCell p u) g f0 f1 f2:=by
 obtain ⟨hb,hg,hl⟩:=h
 exact ⟨blk_far hb hne u,hg,hl⟩
theorem IsS58v.below {w0 W : World} {g : Nat} {vv : Value} {f0 : Int} {f1 : Int} {f2 : List Int} {W1 : World} (h : IsS58v vv w0 W g f0 f1 f2) (hw : Below W.heap.size W W1) : IsS58v vv w0 W1 g f0 f1 f2:=h.grown (grown_of_below hw none) (by simp)
theorem IsS58v.ge {w0 W : World} {g : Nat} {vv : Value} {f0 : Int} {f1 : Int} {f2 : List Int} (h : IsS58v vv w0 W g f0 f1 f2) : w0.heap.size ≤ g:=h.2.1
theorem IsS58v.full {w0 W : World} {g : Nat} {vv : Value} {f0 : Int} {f1 : Int} {f2 : List Int} (h : IsS58v vv w0 W g f0 f1 f2) (hq : (Kd.int .i64).Q 2 W w0.heap.size (fun _ => True) vv f2) : IsS58 w0 W g f0 f1 f2:=⟨vv,h,hq⟩
theorem IsS58v.back {w0 W : World} {g : Nat} {vv : Value} {f0 : Int} {f1 : Int} {f2 : List Int} {w : World} (h : IsS58v vv w0 W g f0 f1 f2) (h0 : IsS58v vv w0 w g f0 f1 f2) (hq : (Kd.int .i64).Q 2 w w0.heap.size (fun _ => True) vv f2) (hk : KeepBut w W g none) : IsS58 w0 W g f0 f1 f2:=⟨vv,h,Kd.Q_mono (Kd.Q_keep (Kd.Q_types hq h0.1 (by decide)) hk (fun _ h => h.2)) (fun _ h => h.1)⟩
theorem IsS58v.fresh {w0 W : World} {g : Nat} {vv : Value} {f0 : Int} {f1 : Int} {f2 : List Int} (h : IsS58v vv w0 W g f0 f1 f2) : ∀ k,W.heap.size ≤ k → k ≠ g:=by
 obtain ⟨hb,hg,hl⟩:=h
 exact Kd.freshB hb
theorem IsS58v.alloc {w0 W : World} {g : Nat} {vv : Value} {f0 : Int} {f1 : Int} {f2 : List Int} (h : IsS58v vv w0 W g f0 f1 f2) (o : Obj) : IsS58v vv w0 (W.alloc o) g f0 f1 f2:=h.below (below_alloc (Below.refl _ _) o)
theorem IsS58v.drewN {w0 W : World} {g : Nat} {vv : Value} {f0 : Int} {f1 : Int} {f2 : List Int} (h : IsS58v vv w0 W g f0 f1 f2) (m : Nat) : IsS58v vv w0 (W.drewN m) g f0 f1 f2:=h.below (pw_below_drewN (Below.refl _ _) m)
theorem IsS58v.drew {w0 W : World} {g : Nat} {vv : Value} {f0 : Int} {f1 : Int} {f2 : List Int} (h : IsS58v vv w0 W g f0 f1 f2) : IsS58v vv w0 W.drew g f0 f1 f2:=h.below (below_drew1 (Below.refl _ _))
theorem IsS58v.at_ {w0 W : World} {g : Nat} {vv : Value} {f0 : Int} {f1 : Int} {f2 : List Int} {w' : World} {m : Nat} (hq : W.drewN m = w') (h : IsS58v vv w0 W g f0 f1 f2) : IsS58v vv w0 w' g f0 f1 f2:=by subst hq;exact IsS58v.drewN h m
theorem IsS58v.apart {w0 W : World} {g : Nat} {vv : Value} {f0 : Int} {f1 : Int} {f2 : List Int} {α : Type} {d : Kd α} {e : Nat} {base : Nat} {ok : Nat → Prop} {v : Value} {xs : List α} (h : IsS58v vv w0 W g f0 f1 f2) (ho : d.R e W base ok v xs) (ht : ∀ q,q ∈ e :: d.E → q ≠ 58) : d.R e W base (fun k => ok k ∧ k ≠ g) v xs:=by
 obtain ⟨hb,hg,hl⟩:=h
 exact Kd.R_types ho hb ht
theorem IsS58v.apartQ {w0 W : World} {g : Nat} {vv : Value} {f0 : Int} {f1 : Int} {f2 : List Int} {α : Type} {d : Kd α} {e : Nat} {base : Nat} {ok : Nat → Prop} {v : Value} {xs : List α} (h : IsS58v vv w0 W g f0 f1 f2) (ho : d.Q e W base ok v xs) (ht : ∀ q,q ∈ e :: d.E → q ≠ 58) : d.Q e W base (fun k => ok k ∧ k ≠ g) v xs:=by
 obtain ⟨hb,hg,hl⟩:=h
 exact Kd.Q_types ho hb ht
theorem IsS58v.apartS {w0 W : World} {g : Nat} {vv : Value} {f0 : Int} {f1 : Int} {f2 : List Int} {α : Type} {d : Kd α} {e : Nat} {base : Nat} {ok : Nat → Prop} {v : Value} {xs : List α} (h : IsS58v vv w0 W g f0 f1 f2) (ho : d.S e W base ok v xs) (ht : ∀ q,q ∈ e :: d.E → q ≠ 58) : d.S e W base (fun k => ok k ∧ k ≠ g) v xs:=by
 obtain ⟨hb,hg,hl⟩:=h
 exact Kd.S_types ho hb ht
theorem IsS58v.own_ne {w0 W : World} {g : Nat} {vv : Value} {f0 : Int} {f1 : Int} {f2 : List Int} {α : Type} {d : Kd α} {e : Nat} {base : Nat} {ok : Nat → Prop} {v : Value} {xs : List α} (h : IsS58v vv w0 W g f0 f1 f2) (ho : d.R e W base ok v xs) (ht : e ≠ 58) : some g ≠ v.ownBlock:=by
 obtain ⟨hb,hg,hl⟩:=h
 exact Kd.R_ne ho hb ht
theorem IsS58v.own_neQ {w0 W : World} {g : Nat} {vv : Value} {f0 : Int} {f1 : Int} {f2 : List Int} {α : Type} {d : Kd α} {e : Nat} {base : Nat} {ok : Nat → Prop} {v : Value} {xs : List α} (h : IsS58v vv w0 W g f0 f1 f2) (ho : d.Q e W base ok v xs) (ht : e ≠ 58) : some g ≠ v.ownBlock:=by
 obtain ⟨hb,hg,hl⟩:=h
 exact Kd.Q_ne ho hb ht
theorem IsS58v.own_neS {w0 W : World} {g : Nat} {vv : Value} {f0 : Int} {f1 : Int} {f2 : List Int} {α : Type} {d : Kd α} {e : Nat} {base : Nat} {ok : Nat → Prop} {v : Value} {xs : List α} (h : IsS58v vv w0 W g f0 f1 f2) (ho : d.S e W base ok v xs) (ht : e ≠ 58) : some g ≠ v.ownBlock:=by
 obtain ⟨hb,hg,hl⟩:=h
 exact Kd.S_ne ho hb ht
theorem IsS58v.own_neN {w0 W : World} {g : Nat} {vv : Value} {f0 : Int} {f1 : Int} {f2 : List Int} {α : Type} {d : Kd α} {e : Nat} {base : Nat} {ok : Nat → Prop} {v : Value} {xs : List α} (h : IsS58v vv w0 W g f0 f1 f2) (ho : Kd.N d e W base ok v xs) (ht : e ≠ 58) : some g ≠ v.ownBlock:=by
 obtain ⟨hb,hg,hl⟩:=h
 exact Kd.N_ne ho hb ht
theorem IsS58v.lt {w0 W : World} {g : Nat} {vv : Value} {f0 : Int} {f1 : Int} {f2 : List Int} (h : IsS58v vv w0 W g f0 f1 f2) : g < W.heap.size:=by
 obtain ⟨hb,hg,hl⟩:=h
 exact blk_lt hb
theorem IsS58v.ne_blk {w0 W : World} {g : Nat} {vv : Value} {f0 : Int} {f1 : Int} {f2 : List Int} {a : Nat} {cs : Array Value} {t : TypeId} {fr : Nat × Nat} (h : IsS58v vv w0 W g f0 f1 f2) (hb2 : W.heap[a]? = some (.cells cs t fr)) (ht : t ≠ 58) : g ≠ a:=by
 obtain ⟨hb,hg,hl⟩:=h
 rintro rfl
 rw [hb] at hb2
 injection hb2 with hb2
 injection hb2 with _ ht2
 exact ht ht2.symm
theorem IsS58.below {w0 W : World} {g : Nat} {f0 : Int} {f1 : Int} {f2 : List Int} {W1 : World} (h : IsS58 w0 W g f0 f1 f2) (hw : Below W.heap.size W W1) : IsS58 w0 W1 g f0 f1 f2:=by
 obtain ⟨vv,⟨hb,hg,hl⟩,hq⟩:=h
 exact ⟨vv,IsS58v.below ⟨hb,hg,hl⟩ hw,Kd.Q_below hq hw⟩
theorem IsS58.keepB {w0 W : World} {g : Nat} {f0 : Int} {f1 : Int} {f2 : List Int} {W1 : World} {g2 : Nat} (h : IsS58 w0 W g f0 f1 f2) (hk : KeepBut W W1 g2 none) (hne : g ≠ g2) (h2 : ∃ cs T,W.heap[g2]? = some (.cells cs T (0,0)) ∧ T ≠ 2) : IsS58 w0 W1 g f0 f1 f2:=by
 obtain ⟨vv,⟨hb,hg,hl⟩,hq⟩:=h
 obtain ⟨cs,T,hb2,hT⟩:=h2
 exact ⟨vv,IsS58v.keepB ⟨hb,hg,hl⟩ hk hne,Kd.Q_mono (Kd.Q_keep (Kd.Q_types hq hb2 (by intro q hm e_;rcases List.mem_cons.mp hm with rfl|h';exact hT e_.symm;exact absurd h' (by simp [Kd.int,Kd.scalar]))) hk (fun _ h => h.2)) (fun _ h => h.1)⟩
theorem IsS58.typ {w0 W : World} {g : Nat} {f0 : Int} {f1 : Int} {f2 : List Int} (h : IsS58 w0 W g f0 f1 f2) : ∃ cs T,W.heap[g]? = some (.cells cs T (0,0)) ∧ T ≠ 2:=by
 obtain ⟨vv,⟨hb,hg,hl⟩,hq⟩:=h
 exact ⟨_,_,hb,by decide⟩
theorem IsS58.ge {w0 W : World} {g : Nat} {f0 : Int} {f1 : Int} {f2 : List Int} (h : IsS58 w0 W g f0 f1 f2) : w0.heap.size ≤ g:=by
 obtain ⟨vv,⟨hb,hg,hl⟩,hq⟩:=h
 exact hg
theorem IsS58.fresh {w0 W : World} {g : Nat} {f0 : Int} {f1 : Int} {f2 : List Int} (h : IsS58 w0 W g f0 f1 f2) : ∀ k,W.heap.size ≤ k → k ≠ g:=by
 obtain ⟨vv,⟨hb,hg,hl⟩,hq⟩:=h
 exact Kd.freshB hb
theorem IsS58.alloc {w0 W : World} {g : Nat} {f0 : Int} {f1 : Int} {f2 : List Int} (h : IsS58 w0 W g f0 f1 f2) (o : Obj) : IsS58 w0 (W.alloc o) g f0 f1 f2:=h.below (below_alloc (Below.refl _ _) o)
theorem IsS58.drewN {w0 W : World} {g : Nat} {f0 : Int} {f1 : Int} {f2 : List Int} (h : IsS58 w0 W g f0 f1 f2) (m : Nat) : IsS58 w0 (W.drewN m) g f0 f1 f2:=h.below (pw_below_drewN (Below.refl _ _) m)
theorem IsS58.drew {w0 W : World} {g : Nat} {f0 : Int} {f1 : Int} {f2 : List Int} (h : IsS58 w0 W g f0 f1 f2) : IsS58 w0 W.drew g f0 f1 f2:=h.below (below_drew1 (Below.refl _ _))
theorem IsS58.at_ {w0 W : World} {g : Nat} {f0 : Int} {f1 : Int} {f2 : List Int} {w' : World} {m : Nat} (hq : W.drewN m = w') (h : IsS58 w0 W g f0 f1 f2) : IsS58 w0 w' g f0 f1 f2:=by subst hq;exact IsS58.drewN h m
theorem IsS58.apart {w0 W : World} {g : Nat} {f0 : Int} {f1 : Int} {f2 : List Int} {α : Type} {d : Kd α} {e : Nat} {base : Nat} {ok : Nat → Prop} {v : Value} {xs : List α} (h : IsS58 w0 W g f0 f1 f2) (ho : d.R e W base ok v xs) (ht : ∀ q,q ∈ e :: d.E → q ≠ 58) : d.R e W base (fun k => ok k ∧ k ≠ g) v xs:=by
 obtain ⟨vv,⟨hb,hg,hl⟩,hq⟩:=h
 exact Kd.R_types ho hb ht
theorem IsS58.apartQ {w0 W : World} {g : Nat} {f0 : Int} {f1 : Int} {f2 : List Int} {α : Type} {d : Kd α} {e : Nat} {base : Nat} {ok : Nat → Prop} {v : Value} {xs : List α} (h : IsS58 w0 W g f0 f1 f2) (ho : d.Q e W base ok v xs) (ht : ∀ q,q ∈ e :: d.E → q ≠ 58) : d.Q e W base (fun k => ok k ∧ k ≠ g) v xs:=by
 obtain ⟨vv,⟨hb,hg,hl⟩,hq⟩:=h
 exact Kd.Q_types ho hb ht
theorem IsS58.apartS {w0 W : World} {g : Nat} {f0 : Int} {f1 : Int} {f2 : List Int} {α : Type} {d : Kd α} {e : Nat} {base : Nat} {ok : Nat → Prop} {v : Value} {xs : List α} (h : IsS58 w0 W g f0 f1 f2) (ho : d.S e W base ok v xs) (ht : ∀ q,q ∈ e :: d.E → q ≠ 58) : d.S e W base (fun k => ok k ∧ k ≠ g) v xs:=by
 obtain ⟨vv,⟨hb,hg,hl⟩,hq⟩:=h
 exact Kd.S_types ho hb ht
theorem IsS58.own_ne {w0 W : World} {g : Nat} {f0 : Int} {f1 : Int} {f2 : List Int} {α : Type} {d : Kd α} {e : Nat} {base : Nat} {ok : Nat → Prop} {v : Value} {xs : List α} (h : IsS58 w0 W g f0 f1 f2) (ho : d.R e W base ok v xs) (ht : e ≠ 58) : some g ≠ v.ownBlock:=by
 obtain ⟨vv,⟨hb,hg,hl⟩,hq⟩:=h
 exact Kd.R_ne ho hb ht
theorem IsS58.own_neQ {w0 W : World} {g : Nat} {f0 : Int} {f1 : Int} {f2 : List Int} {α : Type} {d : Kd α} {e : Nat} {base : Nat} {ok : Nat → Prop} {v : Value} {xs : List α} (h : IsS58 w0 W g f0 f1 f2) (ho : d.Q e W base ok v xs) (ht : e ≠ 58) : some g ≠ v.ownBlock:=by
 obtain ⟨vv,⟨hb,hg,hl⟩,hq⟩:=h
 exact Kd.Q_ne ho hb ht
theorem IsS58.own_neS {w0 W : World} {g : Nat} {f0 : Int} {f1 : Int} {f2 : List Int} {α : Type} {d : Kd α} {e : Nat} {base : Nat} {ok : Nat → Prop} {v : Value} {xs : List α} (h : IsS58 w0 W g f0 f1 f2) (ho : d.S e W base ok v xs) (ht : e ≠ 58) : some g ≠ v.ownBlock:=by
 obtain ⟨vv,⟨hb,hg,hl⟩,hq⟩:=h
 exact Kd.S_ne ho hb ht
theorem IsS58.own_neN {w0 W : World} {g : Nat} {f0 : Int} {f1 : Int} {f2 : List Int} {α : Type} {d : Kd α} {e : Nat} {base : Nat} {ok : Nat → Prop} {v : Value} {xs : List α} (h : IsS58 w0 W g f0 f1 f2) (ho : Kd.N d e W base ok v xs) (ht : e ≠ 58) : some g ≠ v.ownBlock:=by
 obtain ⟨vv,⟨hb,hg,hl⟩,hq⟩:=h
 exact Kd.N_ne ho hb ht
theorem IsS58.lt {w0 W : World} {g : Nat} {f0 : Int} {f1 : Int} {f2 : List Int} (h : IsS58 w0 W g f0 f1 f2) : g < W.heap.size:=by
 obtain ⟨vv,⟨hb,hg,hl⟩,hq⟩:=h
 exact blk_lt hb
theorem IsS58.ne_blk {w0 W : World} {g : Nat} {f0 : Int} {f1 : Int} {f2 : List Int} {a : Nat} {cs : Array Value} {t : TypeId} {fr : Nat × Nat} (h : IsS58 w0 W g f0 f1 f2) (hb2 : W.heap[a]? = some (.cells cs t fr)) (ht : t ≠ 58) : g ≠ a:=by
 obtain ⟨vv,⟨hb,hg,hl⟩,hq⟩:=h
 rintro rfl
 rw [hb] at hb2
 injection hb2 with hb2
 injection hb2 with _ ht2
 exact ht ht2.symm
/-- ... whose list lies in no block of the row u. -/
def IsS58x (u : Value) (w0 W : World) (g : Nat) (f0 : Int) (f1 : Int) (f2 : List Int) : Prop:=∃ vv,IsS58v vv w0 W g f0 f1 f2 ∧ (Kd.int .i64).Q 2 W w0.heap.size (fun _ => True) vv f2 ∧ ∀ k,vv.ownBlock = some k → some k ≠ u.ownBlock
theorem IsS58.newer {w0 W : World} {g : Nat} {f0 : Int} {f1 : Int} {f2 : List Int} {u : Value} {W1 : World} (h : IsS58 w0 W g f0 f1 f2) (hn : ∃ b,u.ownBlock = some b ∧ W.heap.size ≤ b) (hb : Below W.heap.size W W1) : IsS58x u w0 W1 g f0 f1 f2:=by
 obtain ⟨vv,hv,hq⟩:=h
 obtain ⟨b,e,hb2⟩:=hn
 refine ⟨vv,IsS58v.below hv hb,Kd.Q_below hq hb,fun k hk => ?_⟩
 rw [e]
 intro e2
 injection e2 with e2
 have:=Kd.Q_lt hq k hk
 omega
theorem IsS58x.grown {w0 W : World} {g : Nat} {f0 : Int} {f1 : Int} {f2 : List Int} {u : Value} {W1 : World} (h : IsS58x u w0 W g f0 f1 f2) (hg : W.grownBy W1 u.ownBlock) (hne : some g ≠ u.ownBlock) : IsS58 w0 W1 g f0 f1 f2:=by
 obtain ⟨vv,hv,hq,hu⟩:=h
 obtain ⟨h0,inner,ho,hr⟩:=hq
 have hq2 : (Kd.int .i64).Q 2 W w0.heap.size (fun k => vv.ownBlock = some k) vv f2:=⟨fun k hk => hk,inner,ho,hr⟩
 exact ⟨vv,IsS58v.grown hv hg hne,Kd.Q_mono (Kd.Q_grown hq2 hg (fun k hk => hu k hk)) (fun _ _ => trivial)⟩
theorem IsS58x.own_ne {w0 W : World} {g : Nat} {f0 : Int} {f1 : Int} {f2 : List Int} {u : Value} {α : Type} {d : Kd α} {e : Nat} {base : Nat} {ok : Nat → Prop} {v : Value} {xs : List α} (h : IsS58x u w0 W g f0 f1 f2) (ho : d.R e W base ok v xs) (ht : e ≠ 58) : some g ≠ v.ownBlock:=by
 obtain ⟨vv,⟨hb,hg,hl⟩,hq,hu⟩:=h
 exact Kd.R_ne ho hb ht
theorem cellS58_0 {W : World} {g : Nat} {vv : Value} {f0 : Int} {f1 : Int} (h : W.heap[g]? = some (.cells #[.int .i64 f0,.int .i64 f1,vv] 58 (0,0))) : W.cell? ⟨g,0,none⟩ = some (.int .i64 f0):=(blk_cell h 0).trans (by simp)
theorem cellS58_1 {W : World} {g : Nat} {vv : Value} {f0 : Int} {f1 : Int} (h : W.heap[g]? = some (.cells #[.int .i64 f0,.int .i64 f1,vv] 58 (0,0))) : W.cell? ⟨g,1,none⟩ = some (.int .i64 f1):=(blk_cell h 1).trans (by simp)
theorem cellS58_2 {W : World} {g : Nat} {vv : Value} {f0 : Int} {f1 : Int} (h : W.heap[g]? = some (.cells #[.int .i64 f0,.int .i64 f1,vv] 58 (0,0))) : W.cell? ⟨g,2,none⟩ = some vv:=(blk_cell h 2).trans (by simp)
theorem IsS58v.put {w0 W : World} {g : Nat} {vv : Value} {f0 : Int} {f1 : Int} {f2 : List Int} {v : Value} {xs : List Int} (h : IsS58v vv w0 W g f0 f1 f2) (HQ : (Kd.int .i64).Q 2 W w0.heap.size (fun _ => True) v xs) : IsS58 w0 (W.setCell ⟨g,2,none⟩ v) g f0 f1 xs:=by
 have hQ2:=Kd.Q_types HQ h.1 (by decide)
 obtain ⟨hb,hg,hl⟩:=h
 exact ⟨v,⟨by simpa using blk_set hb 2 v,hg,rfl⟩,Kd.Q_mono (Kd.Q_far hQ2 (fun _ h => h.2) v) (fun _ h => h.1)⟩
def madrigalref10_NewSampler.f (a0 : Int) (a1 : Int) : Option (Int × Int × List Int):=some (a0,a1,List.replicate 16 0)
set_option maxHeartbeats 8000000 in
set_option maxRecDepth 100000 in
theorem madrigalref10_NewSampler.calls (a0 : Int) (a1 : Int) (r1 : Int) (r2 : Int) (r3 : List Int) (w0 w : World) (hB : Below w0.heap.size w0 w) (h : madrigalref10_NewSampler.f a0 a1 = some (r1,r2,r3)) :
  Calls Try.prog 21 #[.int .i64 a0,.int .i64 a1] w fun e w' => ∃ g_,e = .returned (.pointer (some ⟨g_,0,none⟩)) ∧ IsS58 w0 w' g_ r1 r2 r3 ∧ Below w0.heap.size w0 w' ∧ Below w.heap.size w w' ∧ w.heap.size ≤ g_:=by
 have hu58:=Try.underlying58
 unfold madrigalref10_NewSampler.f at h
 simp only [Option.some.injEq,Prod.mk.injEq] at h
 obtain ⟨rfl,rfl,rfl⟩:=h
 go_enter Try.func21,Try.ntmps21
 go_wp2_with (first|((with_reducible refine gate_dst (N:=7) rfl ?_);refine Kd.R_make (Kd.int .i64) _ 2 rfl (N:=7) rfl 27 _ _ rfl 16 rfl rfl Try.underlying27 (.int .i64 0) 8 info2 rfl (by decide) (by omega) 0 (ok:=fun _ => True) (okp:=fun _ => True) rfl (fun _ hk => hk) trivial (by omega) (by omega) (Below.refl _ _) (Nat.le_refl _) ?_;intro v6 w6 ho6 hb6 hg_ hnew_;clear hg_ hnew_;obtain ⟨A6,c6,e6⟩:=Kd.R_slice ho6;subst e6;have HM:=ak_ ho6;have HN:=ak_ hb6;clear ho6 hb6)|((with_reducible refine gate_dst (N:=9) rfl ?_);refine box_event ?hg (N:=9) ?hd (cs:=#[.int .i64 a0,.int .i64 a1,.slice A6 (List.replicate (16 : Int).toNat (0 : Int)).length c6]) (t:=58) ?hr ?_;(case hd => rfl);(case hg => rfl);(case hr => first|(go_simp;done)|(go_simp;rfl));intro gb hg w1 hbox hb2;have HX:=ak_ hbox;have HY:=ak_ hb2;have HZ:=ak_ hg;clear hbox hb2 hg))
 go_ret
 have hQ:=Kd.Q_below (Kd.Q_of_R HM.out) HY.out
 have hw : w.heap.size ≤ w6.heap.size:=HN.out.size
 refine ⟨_,rfl,⟨_,⟨HX.out,Nat.le_trans hB.size (Nat.le_trans hw (Nat.le_of_eq HZ.out.symm)),rfl⟩,Kd.Q_lower hQ hB.size⟩,below_step (below_step hB HN.out) HY.out,below_step HN.out HY.out,Nat.le_trans hw (Nat.le_of_eq HZ.out.symm)⟩


end Go.Proofs.Ytcicenmmpbgmoaa.P
