/- Texts of ValueAll. Merged: WN. -/
import Derived.Test.YtifpjhghbafcjaaDoorQValueAllWShare
import Derived.Test.YtifpjhghbafcjaaDoorQValueAllWZeros
namespace Go.Proofs.YtifpjhghbafcjaaDoorW.PrintWords
open Go.RowKit
namespace Kd
def chunks (sz : Nat) (n : Nat) (inner : List Value) : List (List Value):=(List.range n).map fun j=>(inner.drop (j * sz)).take sz
section
variable {α : Type} {d : Kd α} {e base n cc g : Nat} {ok ok' okp S : Nat→Prop} {w w1 W W1 : World} {A : Option Addr} {u v v1 : Value} {xs : List α} {x : α} {c : List Value}
def N {α : Type} (d : Kd α) (e : Nat) (w : World) (base : Nat) (ok : Nat→Prop) (v : Value) (xs : List α) : Prop :=
 (∀ k,v.ownBlock=some k→ok k)∧∃ rows : List (List Value),rows.length=xs.length∧(raw d.sz).R e w base (fun k=>some k=v.ownBlock) v rows∧∀ (j : Nat) (x : α) (c : List Value),xs[j]?=some x→rows[j]?=some c→FK d w (fun k=>ok k∧some k≠v.ownBlock) x c
theorem N_mono (h : N d e w base ok v xs) (hok : ∀ k,ok k→ok' k) : N d e w base ok' v xs:=by
 obtain ⟨h0,rows,hl,hR,hf⟩:=h
 exact ⟨fun k hk=>hok k (h0 k hk),rows,hl,hR,fun j x c hx hc=>FK_mono (hf j x c hx hc) (fun k hk=>⟨hok k hk.1,hk.2⟩)⟩
theorem N_step (h : N d e w base ok v xs) (hm : ∀ k,ok k→k < w.heap.size→w1.heap[k]?=w.heap[k]?) : N d e w1 base ok v xs:=by
 obtain ⟨h0,rows,hl,hR,hf⟩:=h
 exact ⟨h0,rows,hl,R_step hR (fun k hk hlt=>hm k (h0 k hk.symm) hlt),fun j x c hx hc=>FK_step (hf j x c hx hc) (fun k hk hlt=>hm k hk.1 hlt)⟩
theorem N_below (h : N d e w base ok v xs) (hb : Below w.heap.size w w1) : N d e w1 base ok v xs:=N_step h (fun k _ hk=>hb.block k hk)
theorem N_alloc (h : N d e w base ok v xs) (o : Obj) : N d e (w.alloc o) base ok v xs:=N_below h (below_alloc (Below.refl _ _) o)
theorem N_drew (h : N d e w base ok v xs) : N d e w.drew base ok v xs:=N_below h (below_drew (Below.refl _ _))
theorem N_drewN (h : N d e w base ok v xs) (m : Nat) : N d e (w.drewN m) base ok v xs:=N_below h (pw_below_drewN (Below.refl _ _) m)
end
end Kd
end Go.Proofs.YtifpjhghbafcjaaDoorW.PrintWords

