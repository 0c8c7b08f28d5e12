/- Texts of OrderPlaces. Merged: XBase. -/
import Derived.Test.YtojbeofipedolaaQOrderPlacesPx0
import Derived.Test.YtojbeofipedolaaQOrderPlacesHBase
/- Words of the laws about rows. -/
namespace Go.Proofs.Ytojbeofipedolaa.P
open Go.RowKit Go.Proofs.YtojbeofipedolaaW.PrintWords Go.Proofs.YtojbeofipedolaaW.PrintLast Go.Proofs.YtojbeofipedolaaW.PrintMore
set_option linter.unusedVariables false
set_option linter.unusedSimpArgs false
abbrev XV:=S41
abbrev rdV (l : List XV) (i : Int) : XV:=rd_T41 l i
abbrev rdR (l : List (List XV)) (i : Int) : List XV:=rd_L5 l i
theorem rd_lt (l : List Int) (i : Nat) (h : i < l.length) : rd l i=l[i]:=by unfold rd;simp [List.getD,h]
theorem rdV_lt (l : List XV) (i : Nat) (h : i < l.length) : rd_T41 l i=l[i]:=by unfold rd_T41;simp [List.getD,h]
theorem rdV_ge (l : List XV) (i : Nat) (h : l.length≤i) : rd_T41 l i=⟨0,⟨#[]⟩⟩:=by unfold rd_T41;simp [List.getD,h];rfl
theorem rdR_lt (l : List (List XV)) (i : Nat) (h : i < l.length) : rd_L5 l i=l[i]:=by unfold rd_L5;simp [List.getD,h]
structure Sch (T : List Int) (K M G : Int) : Prop where
 n1 : 1≤T.length
 n8 : T.length≤8
 ty : ∀ t ∈ T,1≤t∧t≤3
 k1 : 1≤K
 kn : K≤T.length
 m1 : 1≤M
 m3 : M≤3
 g1 : 1≤G
 g8 : G≤8
theorem Sch.rdt {T : List Int} {K M G : Int} (h : Sch T K M G) (i : Nat) (hi : i < T.length) : 1≤rd T i∧rd T i≤3:=by
 rw [rd_lt T i hi];exact h.ty _ (List.getElem_mem hi)
def fitT (t : Int) (v : XV) : Bool:=if t=1 ∨ t=2 then v.f1.toList == ([] : List UInt8) else if t=3 then (if v.f0=0 then decide ((v.f1.size : Int)≤60) else false) else false
def rowOkB (T : List Int) (r : List XV) : Bool:=decide (T.length=r.length) && (List.range T.length).all fun (i : Nat)=>fitT (rd T i) (rdV r i)
def fit1 (t : Int) (v : XV) : XV:=if t=3 then ⟨0,if (v.f1.size : Int) > 60 then v.f1.extract 0 60 else v.f1⟩ else ⟨v.f0,⟨#[]⟩⟩
def fitRow (T : List Int) (r : List XV) : List XV:=(List.range' 0 T.length).map fun (i : Nat)=>fit1 (rd T i) (rdV r i)
theorem fitRow_length (T : List Int) (r : List XV) : (fitRow T r).length=T.length:=by simp [fitRow]
theorem rdV_fitRow (T : List Int) (r : List XV) (i : Nat) (hi : i < T.length) : rdV (fitRow T r) i=fit1 (rd T i) (rdV r i):=by
 show rd_T41 _ _=_
 rw [rdV_lt _ i (by rw [fitRow_length];exact hi)]
 simp [fitRow]
theorem fitT_fit1 (t : Int) (v : XV) (h1 : 1≤t) (h3 : t≤3) : fitT t (fit1 t v)=true:=by
 unfold fitT fit1
 by_cases e : t=3
 ·subst e
  simp only [if_true,if_pos rfl]
  rw [if_neg (by omega)]
  rw [decide_eq_true_iff]
  split
  ·simp only [ByteArray.size_extract];omega
  ·omega
 ·rw [if_pos (by omega),if_neg e]
  simp [ByteArray.toList_eq]
theorem bytes_eq {a b : ByteArray} (h : a.toList=b.toList) : a=b:=by
 rw [ByteArray.toList_eq,ByteArray.toList_eq] at h
 exact ByteArray.ext (Array.toList_inj.mp h)
theorem XV.same {a b : XV} : (!(a.f0 == b.f0) || (!(a.f1.toList == b.f1.toList)))=true ↔ a≠b:=by
 constructor
 ·rintro h rfl
  simp at h
 ·intro h
  by_cases h0 : a.f0=b.f0
  ·by_cases h1 : a.f1.toList=b.f1.toList
   ·exact absurd (by cases a;cases b;simp only at h0 h1;rw [h0,bytes_eq h1]) h
   ·simp [h1]
  ·simp [h0]
instance : DecidableEq XV:=fun a b=>if h : (!(a.f0 == b.f0) || (!(a.f1.toList == b.f1.toList)))=true then isFalse (XV.same.mp h) else isTrue (Classical.byContradiction fun e=>h (XV.same.mpr e))
end Go.Proofs.Ytojbeofipedolaa.P

