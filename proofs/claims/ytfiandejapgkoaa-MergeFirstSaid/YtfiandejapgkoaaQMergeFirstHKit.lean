/- Texts of MergeFirst. Merged: HKit. -/
import Derived.Test.YtfiandejapgkoaaQMergeFirstWMore
import Derived.Test.YtfiandejapgkoaaQMergeFirstWNEv
import Derived.WalkSpells
/- Words that the printed texts of this seat lean on besides the kit's. -/
namespace Go.Proofs.YtfiandejapgkoaaW.PrintWords
open Go.RowKit
theorem cells_rd (k : IntKind) (l : List Int) (J : Int) (h0 : 0≤J) (h1 : J < (l.length : Int)) : ((l.map (Value.int k)).toArray)[J.toNat]?=some (.int k (rd l J)):=by
 have h : J.toNat < l.length:=by omega
 simp [rd,h,List.getD]
namespace Kd
end Kd
inductive Up (w : World) : World→Prop
 | refl : Up w w
 | alloc {w1 : World} (h : Up w w1) (o : Obj) : Up w (w1.alloc o)
 | drewN {w1 : World} (h : Up w w1) (m : Nat) : Up w (w1.drewN m)
 | drew {w1 : World} (h : Up w w1) : Up w w1.drew
theorem R_up {α : Type} {d : Kd α} {e : Nat} {w w1 : World} {base : Nat} {ok : Nat→Prop} {v : Value} {xs : List α} (h : Kd.R d e w base ok v xs) (hu : Up w w1:=by (with_reducible repeat (first|apply Up.alloc|apply Up.drewN|apply Up.drew));exact Up.refl) : Kd.R d e w1 base ok v xs:=by
 induction hu with
 | refl=>exact h
 | alloc _ o ih=>exact Kd.R_alloc ih o
 | drewN _ m ih=>exact Kd.R_drewN ih m
 | drew _ ih=>exact Kd.R_drew ih
theorem N_up {α : Type} {d : Kd α} {e : Nat} {w w1 : World} {base : Nat} {ok : Nat→Prop} {v : Value} {xs : List α} (h : Kd.N d e w base ok v xs) (hu : Up w w1:=by (with_reducible repeat (first|apply Up.alloc|apply Up.drewN|apply Up.drew));exact Up.refl) : Kd.N d e w1 base ok v xs:=by
 induction hu with
 | refl=>exact h
 | alloc _ o ih=>exact Kd.N_alloc ih o
 | drewN _ m ih=>exact Kd.N_drewN ih m
 | drew _ ih=>exact Kd.N_drew ih
theorem S_up {α : Type} {d : Kd α} {e : Nat} {w w1 : World} {base : Nat} {ok : Nat→Prop} {v : Value} {xs : List α} (h : Kd.S d e w base ok v xs) (hu : Up w w1:=by (with_reducible repeat (first|apply Up.alloc|apply Up.drewN|apply Up.drew));exact Up.refl) : Kd.S d e w1 base ok v xs:=by
 induction hu with
 | refl=>exact h
 | alloc _ o ih=>exact Kd.S_alloc ih o
 | drewN _ m ih=>exact Kd.S_drewN ih m
 | drew _ ih=>exact Kd.S_drew ih
theorem V_up {α : Type} {d : Kd α} {e : Nat} {w w1 : World} {base : Nat} {ok : Nat→Prop} {v : Value} {xs : List α} (h : Kd.V d e w base ok v xs) (hu : Up w w1:=by (with_reducible repeat (first|apply Up.alloc|apply Up.drewN|apply Up.drew));exact Up.refl) : Kd.V d e w1 base ok v xs:=by
 induction hu with
 | refl=>exact h
 | alloc _ o ih=>exact Kd.V_alloc ih o
 | drewN _ m ih=>exact Kd.V_drewN ih m
 | drew _ ih=>exact Kd.V_drew ih
theorem blk_up {w w1 : World} {g : Nat} {o : Obj} (h : w.heap[g]?=some o) (hu : Up w w1:=by (with_reducible repeat (first|apply Up.alloc|apply Up.drewN|apply Up.drew));exact Up.refl) : w1.heap[g]?=some o:=by
 induction hu with
 | refl=>exact h
 | alloc _ o ih=>exact blk_alloc ih o
 | drewN _ m ih=>exact blk_drewN ih m
 | drew _ ih=>exact blk_drew ih
theorem below_up {w0 w w1 : World} (h : Below w0.heap.size w0 w) (hu : Up w w1:=by (with_reducible repeat (first|apply Up.alloc|apply Up.drewN|apply Up.drew));exact Up.refl) : Below w0.heap.size w0 w1:=by
 induction hu with
 | refl=>exact h
 | alloc _ o ih=>exact below_alloc ih o
 | drewN _ m ih=>exact pw_below_drewN ih m
 | drew _ ih=>exact below_drew1 ih
theorem N_upm {α : Type} {d : Kd α} {e : Nat} {w w1 : World} {base : Nat} {ok ok' : Nat→Prop} {v : Value} {xs : List α} (h : Kd.N d e w base ok v xs) (hm : ∀ k,ok k→ok' k) (hu : Up w w1:=by (with_reducible repeat (first|apply Up.alloc|apply Up.drewN|apply Up.drew));exact Up.refl) : Kd.N d e w1 base ok' v xs:=Kd.N_mono (N_up h hu) hm
theorem V_upm {α : Type} {d : Kd α} {e : Nat} {w w1 : World} {base : Nat} {ok ok' : Nat→Prop} {v : Value} {xs : List α} (h : Kd.V d e w base ok v xs) (hm : ∀ k,ok k→ok' k) (hu : Up w w1:=by (with_reducible repeat (first|apply Up.alloc|apply Up.drewN|apply Up.drew));exact Up.refl) : Kd.V d e w1 base ok' v xs:=Kd.V_mono (V_up h hu) hm
theorem below_go {w0 w w1 : World} (h : Below w0.heap.size w0 w) (hu : Below w0.heap.size w0 w→Below w0.heap.size w0 w1:=by intro h_;repeat (first|(with_reducible first|exact h_|apply below_alloc|apply pw_below_drewN|apply below_drew1|refine below_set ?_ (Aside0.out (by assumption)))|exact h_)) : Below w0.heap.size w0 w1:=hu h
theorem R_away {α : Type} {d : Kd α} {e : Nat} {w : World} {base g : Nat} {ok : Nat→Prop} {v : Value} {xs : List α} (h : Kd.R d e w base ok v xs) (hok : ∀ k,ok k→k≠g) : some g≠v.ownBlock:=fun he=>hok g (h.1 g he.symm) rfl
end Go.Proofs.YtfiandejapgkoaaW.PrintWords

