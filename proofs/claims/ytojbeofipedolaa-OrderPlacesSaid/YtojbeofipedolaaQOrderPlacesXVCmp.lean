/- Texts of OrderPlaces. Merged: XVCmp. -/
import Derived.Test.YtojbeofipedolaaQOrderPlacesPx3
import Derived.Test.YtojbeofipedolaaQOrderPlacesXVal
/- schema.Compare tells the order of rows. -/
namespace Go.Proofs.Ytojbeofipedolaa.P
open Go.RowKit Go.Proofs.YtojbeofipedolaaW.PrintWords Go.Proofs.YtojbeofipedolaaW.PrintLast Go.Proofs.YtojbeofipedolaaW.PrintMore
set_option linter.unusedVariables false
set_option linter.unusedSimpArgs false
theorem scmp_loop (T : List Int) (a b : List XV) (m : Nat) (h1 : m≤T.length) (h2 : m≤a.length) (h3 : m≤b.length) (hm : m≤1000000000) : ∀ (d i : Nat),i + d=m→Ev (fun k=>schema_Compare.l0 k a b (T.take m) m i) (cmpFrom T a b d i)
 | 0,i,hi=>by
  refine Ev.succ ?_
  simp only [schema_Compare.l0]
  exact Ev.neg (by omega) (Ev.now _)
 | d + 1,i,hi=>by
  refine Ev.succ ?_
  simp only [schema_Compare.l0]
  have e : rd (T.take m) i=rd T i:=by rw [rd_lt _ i (by rw [List.length_take];omega),rd_lt T i (by omega),List.getElem_take]
  rw [e]
  have el : (T.take m).length=m:=by rw [List.length_take];omega
  simp (disch:=omega) only [w64]
  unfold cmpFrom
  refine Ev.pos (by omega) (Ev.pos (by omega) (Ev.pos (by omega) (Ev.pos (by omega) (Ev.pos (by omega) (Ev.bind (vcmp_ev _ _ _) ?_)))))
  by_cases h : cmpV (rd T i) (rdV a i) (rdV b i)=0
  ·rw [if_pos h]
   exact Ev.pos h (scmp_loop T a b m h1 h2 h3 hm d (i + 1) (by omega))
  ·rw [if_neg h]
   exact Ev.neg h (Ev.now _)
theorem scmp_ev (T : List Int) (K M G : Int) (a b : List XV) (hT : T.length≤1000000000) : Ev (fun k=>schema_Compare.f k T K M G a b) (cmpRow T K a b):=by
 simp only [schema_Compare.f]
 unfold cmpRow
 obtain ⟨m,hm⟩ : ∃ m,min (min (min K.toNat T.length) a.length) b.length=m:=⟨_,rfl⟩
 have e : mn (mn (mn (mx K 0) (T.length : Int)) (a.length : Int)) (b.length : Int)=(m : Int):=by
  unfold mn mx
  rw [← hm]
  repeat' split
  all_goals omega
 rw [e,hm]
 have el : (T.take m).length=m:=by rw [List.length_take];omega
 refine Ev.pos (by omega) (Ev.pos (by omega) ?_)
 rw [Int.toNat_natCast,el]
 exact scmp_loop T a b m (by omega) (by omega) (by omega) (by omega) m 0 (by omega)
end Go.Proofs.Ytojbeofipedolaa.P

