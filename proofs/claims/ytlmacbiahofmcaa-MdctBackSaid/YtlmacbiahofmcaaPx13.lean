/- The machine side of the laws of one chapter, without conditions: each call of a Go function comes to what the Lean function of its name answers. Written for this claim by a program of the prover. -/
import Derived.Test.YtlmacbiahofmcaaPx0
import Derived.Test.YtlmacbiahofmcaaPx1
namespace Go.Proofs.Ytlmacbiahofmcaa.P
open Go.RowKit Go.Proofs.YtlmacbiahofmcaaW.PrintWords Go.Proofs.YtlmacbiahofmcaaW.PrintLast Go.Proofs.YtlmacbiahofmcaaW.PrintMore
attribute [local go_sem] max2_int min2_int max_two min_two max_three min_three max_four min_four   -- for this text's walks alone
set_option linter.unusedVariables false
set_option linter.unusedSimpArgs false

/-! ### mdct_New: function 13 -/
/-- A state of type 52 at block g of W: its block alone, its slice's value named. -/
def IsS52v (vv : Value) (w0 W : World) (g : Nat) (f0 : Int) (f1 : Int) (f2 : List Int) : Prop:=W.heap[g]? = some (.cells #[.int .i64 f0,.int .i64 f1,vv] 52 (0,0)) ∧ w0.heap.size ≤ g ∧ f2 = f2
/-- A state of type 52 at block g of W, with a list in a block of its own. -/
def IsS52 (w0 W : World) (g : Nat) (f0 : Int) (f1 : Int) (f2 : List Int) : Prop:=∃ vv,IsS52v vv w0 W g f0 f1 f2 ∧ (Kd.int .i64).Q 2 W w0.heap.size (fun _ => True) vv f2
theorem IsS52v.grown {w0 W : World} {g : Nat} {vv : Value} {f0 : Int} {f1 : Int} {f2 : List Int} {W1 : World} {row : Option Nat} (h : IsS52v vv w0 W g f0 f1 f2) (hw : W.grownBy W1 row) (hne : some g ≠ row) : IsS52v vv w0 W1 g f0 f1 f2:=by
 obtain ⟨hb,hg,hl⟩:=h
 exact ⟨blk_grown hb hw hne,hg,hl⟩
theorem IsS52v.kept {w0 W : World} {g : Nat} {vv : Value} {f0 : Int} {f1 : Int} {f2 : List Int} {W1 : World} {S : Nat → Prop} (h : IsS52v vv w0 W g f0 f1 f2) (hk : Kept W W1 S) (hne : ¬ S g) : IsS52v vv w0 W1 g f0 f1 f2:=by
 obtain ⟨hb,hg,hl⟩:=h
 exact ⟨blk_kept hb hk hne,hg,hl⟩
theorem IsS52v.keepB {w0 W : World} {g : Nat} {vv : Value} {f0 : Int} {f1 : Int} {f2 : List Int} {W1 : World} {g2 : Nat} (h : IsS52v vv w0 W g f0 f1 f2) (hk : KeepBut W W1 g2 none) (hne : g ≠ g2) : IsS52v vv w0 W1 g f0 f1 f2:=by
 obtain ⟨hb,hg,hl⟩:=h
 exact ⟨KeepBut.blk (g:=g2) hk hb hne (by simp),hg,hl⟩
theorem IsS52v.far {w0 W : World} {g : Nat} {vv : Value} {f0 : Int} {f1 : Int} {f2 : List Int} {p : Addr} (h : IsS52v vv w0 W g f0 f1 f2) (hne : g ≠ p.block) (u : Value) : IsS52v vv w0 (W.setCell p u) g f0 f1 f2:=by
 obtain ⟨hb,hg,hl⟩:=h
 exact ⟨blk_far hb hne u,hg,hl⟩
theorem IsS52v.below {w0 W : World} {g : Nat} {vv : Value} {f0 : Int} {f1 : Int} {f2 : List Int} {W1 : World} (h : IsS52v vv w0 W g f0 f1 f2) (hw : Below W.heap.size W W1) : IsS52v vv w0 W1 g f0 f1 f2:=h.grown (grown_of_below hw none) (by simp)
theorem IsS52v.ge {w0 W : World} {g : Nat} {vv : Value} {f0 : Int} {f1 : Int} {f2 : List Int} (h : IsS52v vv w0 W g f0 f1 f2) : w0.heap.size ≤ g:=h.2.1
theorem IsS52v.full {w0 W : World} {g : Nat} {vv : Value} {f0 : Int} {f1 : Int} {f2 : List Int} (h : IsS52v vv w0 W g f0 f1 f2) (hq : (Kd.int .i64).Q 2 W w0.heap.size (fun _ => True) vv f2) : IsS52 w0 W g f0 f1 f2:=⟨vv,h,hq⟩
theorem IsS52v.back {w0 W : World} {g : Nat} {vv : Value} {f0 : Int} {f1 : Int} {f2 : List Int} {w : World} (h : IsS52v vv w0 W g f0 f1 f2) (h0 : IsS52v vv w0 w g f0 f1 f2) (hq : (Kd.int .i64).Q 2 w w0.heap.size (fun _ => True) vv f2) (hk : KeepBut w W g none) : IsS52 w0 W g f0 f1 f2:=⟨vv,h,Kd.Q_mono (Kd.Q_keep (Kd.Q_types hq h0.1 (by decide)) hk (fun _ h => h.2)) (fun _ h => h.1)⟩
theorem IsS52v.fresh {w0 W : World} {g : Nat} {vv : Value} {f0 : Int} {f1 : Int} {f2 : List Int} (h : IsS52v vv w0 W g f0 f1 f2) : ∀ k,W.heap.size ≤ k → k ≠ g:=by
 obtain ⟨hb,hg,hl⟩:=h
 exact Kd.freshB hb
theorem IsS52v.alloc {w0 W : World} {g : Nat} {vv : Value} {f0 : Int} {f1 : Int} {f2 : List Int} (h : IsS52v vv w0 W g f0 f1 f2) (o : Obj) : IsS52v vv w0 (W.alloc o) g f0 f1 f2:=h.below (below_alloc (Below.refl _ _) o)
theorem IsS52v.drewN {w0 W : World} {g : Nat} {vv : Value} {f0 : Int} {f1 : Int} {f2 : List Int} (h : IsS52v vv w0 W g f0 f1 f2) (m : Nat) : IsS52v vv w0 (W.drewN m) g f0 f1 f2:=h.below (pw_below_drewN (Below.refl _ _) m)
theorem IsS52v.drew {w0 W : World} {g : Nat} {vv : Value} {f0 : Int} {f1 : Int} {f2 : List Int} (h : IsS52v vv w0 W g f0 f1 f2) : IsS52v vv w0 W.drew g f0 f1 f2:=h.below (below_drew1 (Below.refl _ _))
theorem IsS52v.at_ {w0 W : World} {g : Nat} {vv : Value} {f0 : Int} {f1 : Int} {f2 : List Int} {w' : World} {m : Nat} (hq : W.drewN m = w') (h : IsS52v vv w0 W g f0 f1 f2) : IsS52v vv w0 w' g f0 f1 f2:=by subst hq;exact IsS52v.drewN h m
theorem IsS52v.apart {w0 W : World} {g : Nat} {vv : Value} {f0 : Int} {f1 : Int} {f2 : List Int} {α : Type} {d : Kd α} {e : Nat} {base : Nat} {ok : Nat → Prop} {v : Value} {xs : List α} (h : IsS52v vv w0 W g f0 f1 f2) (ho : d.R e W base ok v xs) (ht : ∀ q,q ∈ e :: d.E → q ≠ 52) : d.R e W base (fun k => ok k ∧ k ≠ g) v xs:=by
 obtain ⟨hb,hg,hl⟩:=h
 exact Kd.R_types ho hb ht
theorem IsS52v.apartQ {w0 W : World} {g : Nat} {vv : Value} {f0 : Int} {f1 : Int} {f2 : List Int} {α : Type} {d : Kd α} {e : Nat} {base : Nat} {ok : Nat → Prop} {v : Value} {xs : List α} (h : IsS52v vv w0 W g f0 f1 f2) (ho : d.Q e W base ok v xs) (ht : ∀ q,q ∈ e :: d.E → q ≠ 52) : d.Q e W base (fun k => ok k ∧ k ≠ g) v xs:=by
 obtain ⟨hb,hg,hl⟩:=h
 exact Kd.Q_types ho hb ht
theorem IsS52v.apartS {w0 W : World} {g : Nat} {vv : Value} {f0 : Int} {f1 : Int} {f2 : List Int} {α : Type} {d : Kd α} {e : Nat} {base : Nat} {ok : Nat → Prop} {v : Value} {xs : List α} (h : IsS52v vv w0 W g f0 f1 f2) (ho : d.S e W base ok v xs) (ht : ∀ q,q ∈ e :: d.E → q ≠ 52) : d.S e W base (fun k => ok k ∧ k ≠ g) v xs:=by
 obtain ⟨hb,hg,hl⟩:=h
 exact Kd.S_types ho hb ht
theorem IsS52v.own_ne {w0 W : World} {g : Nat} {vv : Value} {f0 : Int} {f1 : Int} {f2 : List Int} {α : Type} {d : Kd α} {e : Nat} {base : Nat} {ok : Nat → Prop} {v : Value} {xs : List α} (h : IsS52v vv w0 W g f0 f1 f2) (ho : d.R e W base ok v xs) (ht : e ≠ 52) : some g ≠ v.ownBlock:=by
 obtain ⟨hb,hg,hl⟩:=h
 exact Kd.R_ne ho hb ht
theorem IsS52v.own_neQ {w0 W : World} {g : Nat} {vv : Value} {f0 : Int} {f1 : Int} {f2 : List Int} {α : Type} {d : Kd α} {e : Nat} {base : Nat} {ok : Nat → Prop} {v : Value} {xs : List α} (h : IsS52v vv w0 W g f0 f1 f2) (ho : d.Q e W base ok v xs) (ht : e ≠ 52) : some g ≠ v.ownBlock:=by
 obtain ⟨hb,hg,hl⟩:=h
 exact Kd.Q_ne ho hb ht
theorem IsS52v.own_neS {w0 W : World} {g : Nat} {vv : Value} {f0 : Int} {f1 : Int} {f2 : List Int} {α : Type} {d : Kd α} {e : Nat} {base : Nat} {ok : Nat → Prop} {v : Value} {xs : List α} (h : IsS52v vv w0 W g f0 f1 f2) (ho : d.S e W base ok v xs) (ht : e ≠ 52) : some g ≠ v.ownBlock:=by
 obtain ⟨hb,hg,hl⟩:=h
 exact Kd.S_ne ho hb ht
theorem IsS52v.own_neN {w0 W : World} {g : Nat} {vv : Value} {f0 : Int} {f1 : Int} {f2 : List Int} {α : Type} {d : Kd α} {e : Nat} {base : Nat} {ok : Nat → Prop} {v : Value} {xs : List α} (h : IsS52v vv w0 W g f0 f1 f2) (ho : Kd.N d e W base ok v xs) (ht : e ≠ 52) : some g ≠ v.ownBlock:=by
 obtain ⟨hb,hg,hl⟩:=h
 exact Kd.N_ne ho hb ht
theorem IsS52v.lt {w0 W : World} {g : Nat} {vv : Value} {f0 : Int} {f1 : Int} {f2 : List Int} (h : IsS52v vv w0 W g f0 f1 f2) : g < W.heap.size:=by
 obtain ⟨hb,hg,hl⟩:=h
 exact blk_lt hb
theorem IsS52v.ne_blk {w0 W : World} {g : Nat} {vv : Value} {f0 : Int} {f1 : Int} {f2 : List Int} {a : Nat} {cs : Array Value} {t : TypeId} {fr : Nat × Nat} (h : IsS52v vv w0 W g f0 f1 f2) (hb2 : W.heap[a]? = some (.cells cs t fr)) (ht : t ≠ 52) : g ≠ a:=by
 obtain ⟨hb,hg,hl⟩:=h
 rintro rfl
 rw [hb] at hb2
 injection hb2 with hb2
 injection hb2 with _ ht2
 exact ht ht2.symm
theorem IsS52.below {w0 W : World} {g : Nat} {f0 : Int} {f1 : Int} {f2 : List Int} {W1 : World} (h : IsS52 w0 W g f0 f1 f2) (hw : Below W.heap.size W W1) : IsS52 w0 W1 g f0 f1 f2:=by
 obtain ⟨vv,⟨hb,hg,hl⟩,hq⟩:=h
 exact ⟨vv,IsS52v.below ⟨hb,hg,hl⟩ hw,Kd.Q_below hq hw⟩
theorem IsS52.keepB {w0 W : World} {g : Nat} {f0 : Int} {f1 : Int} {f2 : List Int} {W1 : World} {g2 : Nat} (h : IsS52 w0 W g f0 f1 f2) (hk : KeepBut W W1 g2 none) (hne : g ≠ g2) (h2 : ∃ cs T,W.heap[g2]? = some (.cells cs T (0,0)) ∧ T ≠ 2) : IsS52 w0 W1 g f0 f1 f2:=by
 obtain ⟨vv,⟨hb,hg,hl⟩,hq⟩:=h
 obtain ⟨cs,T,hb2,hT⟩:=h2
 exact ⟨vv,IsS52v.keepB ⟨hb,hg,hl⟩ hk hne,Kd.Q_mono (Kd.Q_keep (Kd.Q_types hq hb2 (by intro q hm e_;rcases List.mem_cons.mp hm with rfl|h';exact hT e_.symm;exact absurd h' (by simp [Kd.int,Kd.scalar]))) hk (fun _ h => h.2)) (fun _ h => h.1)⟩
theorem IsS52.typ {w0 W : World} {g : Nat} {f0 : Int} {f1 : Int} {f2 : List Int} (h : IsS52 w0 W g f0 f1 f2) : ∃ cs T,W.heap[g]? = some (.cells cs T (0,0)) ∧ T ≠ 2:=by
 obtain ⟨vv,⟨hb,hg,hl⟩,hq⟩:=h
 exact ⟨_,_,hb,by decide⟩
theorem IsS52.ge {w0 W : World} {g : Nat} {f0 : Int} {f1 : Int} {f2 : List Int} (h : IsS52 w0 W g f0 f1 f2) : w0.heap.size ≤ g:=by
 obtain ⟨vv,⟨hb,hg,hl⟩,hq⟩:=h
 exact hg
theorem IsS52.fresh {w0 W : World} {g : Nat} {f0 : Int} {f1 : Int} {f2 : List Int} (h : IsS52 w0 W g f0 f1 f2) : ∀ k,W.heap.size ≤ k → k ≠ g:=by
 obtain ⟨vv,⟨hb,hg,hl⟩,hq⟩:=h
 exact Kd.freshB hb
theorem IsS52.alloc {w0 W : World} {g : Nat} {f0 : Int} {f1 : Int} {f2 : List Int} (h : IsS52 w0 W g f0 f1 f2) (o : Obj) : IsS52 w0 (W.alloc o) g f0 f1 f2:=h.below (below_alloc (Below.refl _ _) o)
theorem IsS52.drewN {w0 W : World} {g : Nat} {f0 : Int} {f1 : Int} {f2 : List Int} (h : IsS52 w0 W g f0 f1 f2) (m : Nat) : IsS52 w0 (W.drewN m) g f0 f1 f2:=h.below (pw_below_drewN (Below.refl _ _) m)
theorem IsS52.drew {w0 W : World} {g : Nat} {f0 : Int} {f1 : Int} {f2 : List Int} (h : IsS52 w0 W g f0 f1 f2) : IsS52 w0 W.drew g f0 f1 f2:=h.below (below_drew1 (Below.refl _ _))
theorem IsS52.at_ {w0 W : World} {g : Nat} {f0 : Int} {f1 : Int} {f2 : List Int} {w' : World} {m : Nat} (hq : W.drewN m = w') (h : IsS52 w0 W g f0 f1 f2) : IsS52 w0 w' g f0 f1 f2:=by subst hq;exact IsS52.drewN h m
theorem IsS52.apart {w0 W : World} {g : Nat} {f0 : Int} {f1 : Int} {f2 : List Int} {α : Type} {d : Kd α} {e : Nat} {base : Nat} {ok : Nat → Prop} {v : Value} {xs : List α} (h : IsS52 w0 W g f0 f1 f2) (ho : d.R e W base ok v xs) (ht : ∀ q,q ∈ e :: d.E → q ≠ 52) : d.R e W base (fun k => ok k ∧ k ≠ g) v xs:=by
 obtain ⟨vv,⟨hb,hg,hl⟩,hq⟩:=h
 exact Kd.R_types ho hb ht
theorem IsS52.apartQ {w0 W : World} {g : Nat} {f0 : Int} {f1 : Int} {f2 : List Int} {α : Type} {d : Kd α} {e : Nat} {base : Nat} {ok : Nat → Prop} {v : Value} {xs : List α} (h : IsS52 w0 W g f0 f1 f2) (ho : d.Q e W base ok v xs) (ht : ∀ q,q ∈ e :: d.E → q ≠ 52) : d.Q e W base (fun k => ok k ∧ k ≠ g) v xs:=by
 obtain ⟨vv,⟨hb,hg,hl⟩,hq⟩:=h
 exact Kd.Q_types ho hb ht
theorem IsS52.apartS {w0 W : World} {g : Nat} {f0 : Int} {f1 : Int} {f2 : List Int} {α : Type} {d : Kd α} {e : Nat} {base : Nat} {ok : Nat → Prop} {v : Value} {xs : List α} (h : IsS52 w0 W g f0 f1 f2) (ho : d.S e W base ok v xs) (ht : ∀ q,q ∈ e :: d.E → q ≠ 52) : d.S e W base (fun k => ok k ∧ k ≠ g) v xs:=by
 obtain ⟨vv,⟨hb,hg,hl⟩,hq⟩:=h
 exact Kd.S_types ho hb ht
theorem IsS52.own_ne {w0 W : World} {g : Nat} {f0 : Int} {f1 : Int} {f2 : List Int} {α : Type} {d : Kd α} {e : Nat} {base : Nat} {ok : Nat → Prop} {v : Value} {xs : List α} (h : IsS52 w0 W g f0 f1 f2) (ho : d.R e W base ok v xs) (ht : e ≠ 52) : some g ≠ v.ownBlock:=by
 obtain ⟨vv,⟨hb,hg,hl⟩,hq⟩:=h
 exact Kd.R_ne ho hb ht
theorem IsS52.own_neQ {w0 W : World} {g : Nat} {f0 : Int} {f1 : Int} {f2 : List Int} {α : Type} {d : Kd α} {e : Nat} {base : Nat} {ok : Nat → Prop} {v : Value} {xs : List α} (h : IsS52 w0 W g f0 f1 f2) (ho : d.Q e W base ok v xs) (ht : e ≠ 52) : some g ≠ v.ownBlock:=by
 obtain ⟨vv,⟨hb,hg,hl⟩,hq⟩:=h
 exact Kd.Q_ne ho hb ht
theorem IsS52.own_neS {w0 W : World} {g : Nat} {f0 : Int} {f1 : Int} {f2 : List Int} {α : Type} {d : Kd α} {e : Nat} {base : Nat} {ok : Nat → Prop} {v : Value} {xs : List α} (h : IsS52 w0 W g f0 f1 f2) (ho : d.S e W base ok v xs) (ht : e ≠ 52) : some g ≠ v.ownBlock:=by
 obtain ⟨vv,⟨hb,hg,hl⟩,hq⟩:=h
 exact Kd.S_ne ho hb ht
theorem IsS52.own_neN {w0 W : World} {g : Nat} {f0 : Int} {f1 : Int} {f2 : List Int} {α : Type} {d : Kd α} {e : Nat} {base : Nat} {ok : Nat → Prop} {v : Value} {xs : List α} (h : IsS52 w0 W g f0 f1 f2) (ho : Kd.N d e W base ok v xs) (ht : e ≠ 52) : some g ≠ v.ownBlock:=by
 obtain ⟨vv,⟨hb,hg,hl⟩,hq⟩:=h
 exact Kd.N_ne ho hb ht
theorem IsS52.lt {w0 W : World} {g : Nat} {f0 : Int} {f1 : Int} {f2 : List Int} (h : IsS52 w0 W g f0 f1 f2) : g < W.heap.size:=by
 obtain ⟨vv,⟨hb,hg,hl⟩,hq⟩:=h
 exact blk_lt hb
theorem IsS52.ne_blk {w0 W : World} {g : Nat} {f0 : Int} {f1 : Int} {f2 : List Int} {a : Nat} {cs : Array Value} {t : TypeId} {fr : Nat × Nat} (h : IsS52 w0 W g f0 f1 f2) (hb2 : W.heap[a]? = some (.cells cs t fr)) (ht : t ≠ 52) : g ≠ a:=by
 obtain ⟨vv,⟨hb,hg,hl⟩,hq⟩:=h
 rintro rfl
 rw [hb] at hb2
 injection hb2 with hb2
 injection hb2 with _ ht2
 exact ht ht2.symm
theorem cellS52_0 {W : World} {g : Nat} {vv : Value} {f0 : Int} {f1 : Int} (h : W.heap[g]? = some (.cells #[.int .i64 f0,.int .i64 f1,vv] 52 (0,0))) : W.cell? ⟨g,0,none⟩ = some (.int .i64 f0):=(blk_cell h 0).trans (by simp)
theorem cellS52_1 {W : World} {g : Nat} {vv : Value} {f0 : Int} {f1 : Int} (h : W.heap[g]? = some (.cells #[.int .i64 f0,.int .i64 f1,vv] 52 (0,0))) : W.cell? ⟨g,1,none⟩ = some (.int .i64 f1):=(blk_cell h 1).trans (by simp)
theorem cellS52_2 {W : World} {g : Nat} {vv : Value} {f0 : Int} {f1 : Int} (h : W.heap[g]? = some (.cells #[.int .i64 f0,.int .i64 f1,vv] 52 (0,0))) : W.cell? ⟨g,2,none⟩ = some vv:=(blk_cell h 2).trans (by simp)
theorem IsS52v.put {w0 W : World} {g : Nat} {vv : Value} {f0 : Int} {f1 : Int} {f2 : List Int} {v : Value} {xs : List Int} (h : IsS52v vv w0 W g f0 f1 f2) (HQ : (Kd.int .i64).Q 2 W w0.heap.size (fun _ => True) v xs) : IsS52 w0 (W.setCell ⟨g,2,none⟩ v) g f0 f1 xs:=by
 have hQ2:=Kd.Q_types HQ h.1 (by decide)
 obtain ⟨hb,hg,hl⟩:=h
 exact ⟨v,⟨by simpa using blk_set hb 2 v,hg,rfl⟩,Kd.Q_mono (Kd.Q_far hQ2 (fun _ h => h.2) v) (fun _ h => h.1)⟩
def mdct_New1.f (a0 : Int) (a1 : Int) : Option (Int × Int × List Int × Int):=(mdct_Good.f a0 a1).bind fun b => if b = true then (if 0 ≤ a0 then (if a0.toNat ≤ 35184372088832 then some (a0,a1,List.replicate a0.toNat 0,0) else none) else none) else none
def mdct_New0.f (a0 : Int) (a1 : Int) : Option Int:=(mdct_Good.f a0 a1).bind fun b => if b = true then none else some 1
set_option maxHeartbeats 8000000 in
set_option maxRecDepth 100000 in
theorem mdct_New1.calls (a0 : Int) (a1 : Int) (r1 : Int) (r2 : Int) (r3 : List Int) (r4 : Int) (w0 w : World) (hB : Below w0.heap.size w0 w) (h : mdct_New1.f a0 a1 = some (r1,r2,r3,r4)) :
  Calls Try.prog 13 #[.int .i64 a0,.int .i64 a1] w fun e w' => ∃ g_,e = .returned (.tuple #[.pointer (some ⟨g_,0,none⟩),.int .i64 0]) ∧ IsS52 w0 w' g_ r1 r2 r3 ∧ Below w0.heap.size w0 w' ∧ Below w.heap.size w w' ∧ w.heap.size ≤ g_:=by
 have hu52:=Try.underlying52
 unfold mdct_New1.f at h
 obtain ⟨b,hb0,h⟩:=Option.bind_eq_some_iff.mp h
 cases b with
 | false => simp at h
 | true =>
  by_cases h0 : 0 ≤ a0
  ·by_cases h1 : a0.toNat ≤ 35184372088832
   ·simp only [if_true,h0,h1,Option.some.injEq,Prod.mk.injEq] at h
    obtain ⟨rfl,rfl,rfl,rfl⟩:=h
    go_enter Try.func13,Try.ntmps13
    go_wp2_with (first|((with_reducible refine gate_callee (f:=16) rfl ?_);refine goesL_ (some 8) rfl rfl Try.func16 (by kernel_rfl) rfl #[.int .i64 a0,.int .i64 a1] rfl (by (try simp only [List.map_toArray,List.map_cons,List.map_nil]);first|done|rfl|(simp only [List.length_drop,List.length_take];rfl)) ?_;(with_reducible refine (mdct_Good.calls a0 a1 true _ hb0).mono ?_);rintro e w' ⟨rfl,⟨nd,rfl⟩⟩;refine ⟨_,rfl,?_⟩)|((with_reducible refine gate_dst (N:=13) rfl ?_);refine Kd.R_make (Kd.int .i64) _ 2 rfl (N:=13) rfl 23 _ _ rfl a0 rfl rfl Try.underlying23 (.int .i64 0) 8 info2 rfl (by decide) (by omega) 0 (ok:=fun _ => True) (okp:=fun _ => True) rfl (fun _ hk => hk) trivial h0 (Nat.le_trans (Nat.mul_le_mul_right _ h1) (by omega)) (Below.refl _ _) (Nat.le_refl _) ?_;intro v6 w6 ho6 hb6 hg_ hnew_;clear hg_ hnew_;obtain ⟨A6,c6,e6⟩:=Kd.R_slice ho6;subst e6;have HM:=ak_ ho6;have HN:=ak_ hb6;clear ho6 hb6)|((with_reducible refine gate_dst (N:=15) rfl ?_);refine box_event ?hg (N:=15) ?hd (cs:=#[.int .i64 a0,.int .i64 a1,.slice A6 (List.replicate a0.toNat (0 : Int)).length c6]) (t:=52) ?hr ?_;(case hd => rfl);(case hg => rfl);(case hr => first|(go_simp;done)|(go_simp;rfl));intro gb hg w1 hbox hb2;have HX:=ak_ hbox;have HY:=ak_ hb2;have HZ:=ak_ hg;clear hbox hb2 hg))
    go_ret2
    have hQ:=Kd.Q_below (Kd.Q_of_R HM.out) HY.out
    have hw : w.heap.size ≤ w6.heap.size:=HN.out.size
    refine ⟨_,rfl,⟨_,⟨HX.out,Nat.le_trans hB.size (Nat.le_trans hw (Nat.le_of_eq HZ.out.symm)),rfl⟩,Kd.Q_lower hQ hB.size⟩,below_step (below_step (pw_below_drewN hB nd) HN.out) HY.out,below_step (below_step (pw_below_drewN (Below.refl _ _) nd) HN.out) HY.out,Nat.le_trans hw (Nat.le_of_eq HZ.out.symm)⟩
   ·simp [h0,h1] at h
  ·simp [h0] at h
set_option maxHeartbeats 8000000 in
set_option maxRecDepth 100000 in
theorem mdct_New0.calls (a0 : Int) (a1 : Int) (r1 : Int) (w : World) (h : mdct_New0.f a0 a1 = some r1) :
  Calls Try.prog 13 #[.int .i64 a0,.int .i64 a1] w fun e w' => e = .returned (.tuple #[.pointer none,.int .i64 1]) ∧ Drawn0 w w':=by
 unfold mdct_New0.f at h
 obtain ⟨b,hb0,h⟩:=Option.bind_eq_some_iff.mp h
 cases b with
 | true => simp at h
 | false =>
  obtain rfl : 1 = r1:=by simpa using h
  go_enter Try.func13,Try.ntmps13
  go_wp2_with (first|((with_reducible refine gate_callee (f:=16) rfl ?_);refine goesL_ (some 8) rfl rfl Try.func16 (by kernel_rfl) rfl #[.int .i64 a0,.int .i64 a1] rfl (by (try simp only [List.map_toArray,List.map_cons,List.map_nil]);first|done|rfl|(simp only [List.length_drop,List.length_take];rfl)) ?_;(with_reducible refine (mdct_Good.calls a0 a1 false _ hb0).mono ?_);rintro e w' ⟨rfl,⟨nd,rfl⟩⟩;refine ⟨_,rfl,?_⟩))
  go_ret2
  exact ⟨rfl,⟨_,rfl⟩⟩


end Go.Proofs.Ytlmacbiahofmcaa.P
