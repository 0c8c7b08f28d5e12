/- Texts of SchemaRows. Merged: Px5a. -/
import Derived.Test.YtkodpbellndelaaQSchemaRowsPx0
import Derived.Test.YtkodpbellndelaaQSchemaRowsPx3
import Derived.Test.YtkodpbellndelaaQSchemaRowsHBatch
import Derived.Test.YtkodpbellndelaaQSchemaRowsHRow
namespace Go.Proofs.Ytkodpbellndelaa.P
open Go.RowKit Go.Proofs.YtkodpbellndelaaW.PrintWords Go.Proofs.YtkodpbellndelaaW.PrintLast Go.Proofs.YtkodpbellndelaaW.PrintMore
attribute [local go_sem] max2_int min2_int max_two min_two max_three min_three max_four min_four   -- for this text's walks alone
set_option linter.unusedVariables false
set_option linter.unusedSimpArgs false
def thresherlaw04_SchemaRows.f (k : Nat) (a0_0 : Int) (a0_1 : Int) (a0_2 : Int) (a0_3 : Int) (a0_4 : Int) (a0_5 : Int) (a0_6 : Int) (a0_7 : Int) (a0_8 : Int) (a0_9 : Int) (a0_10 : Int) (a0_11 : Int) (l1 : List (S34)) (a2 : Int) : Option (Bool):=(thresherlaw04_shown.f k).bind fun t175=>((thresherlaw04_made.f k a0_0 a0_1 a0_2 a0_3 a0_4 a0_5 a0_6 a0_7 a0_8 a0_9 a0_10 a0_11).bind fun bt176=>((thresherref04_Fit.f k bt176.1 bt176.2.1 bt176.2.2.1 bt176.2.2.2 l1).bind fun t183=>(if (t183.length : Int)=0 then (none) else ((some (([] : List (S34)) : List (S34))).bind fun y186=>(if y186.length + t183.length < 5864062014805 then ((some (y186 ++ t183 : List (S34))).bind fun y189=>(if 0≤(Int.tmod (wrap64 (a2)) (t183.length : Int)) then (if (Int.tmod (wrap64 (a2)) (t183.length : Int)) < (y189.length : Int) then ((some (y189.set ((Int.tmod (wrap64 (a2)) (t183.length : Int)) : Int).toNat (⟨1,(⟨#[120]⟩ : ByteArray)⟩ : S34) : List (S34))).bind fun y192=>((schema_Row.f bt176.1 bt176.2.1 bt176.2.2.1 bt176.2.2.2 t183).bind fun t193=>((some (([] : List (S34)) : List (S34))).bind fun y194=>(if y194.length + t183.length < 5864062014805 then ((some (y194 ++ t183 : List (S34))).bind fun y197=>((some (([(⟨0,(⟨#[]⟩ : ByteArray)⟩ : S34)] : List (S34)) : List (S34))).bind fun y200=>(if y197.length + y200.length < 5864062014805 then ((schema_Row.f bt176.1 bt176.2.1 bt176.2.2.1 bt176.2.2.2 (y197 ++ y200)).bind fun t206=>(if 0≤(wrap64 ((t183.length : Int) - 1)) then (if (wrap64 ((t183.length : Int) - 1))≤(t183.length : Int) then ((schema_Row.f bt176.1 bt176.2.1 bt176.2.2.1 bt176.2.2.2 (t183.take ((wrap64 ((t183.length : Int) - 1)) : Int).toNat)).bind fun t212=>((schema_Row.f bt176.1 bt176.2.1 bt176.2.2.1 bt176.2.2.2 y192).bind fun t213=>(if t175=true then (if t193=true then (if t206=true then (some false) else (if t212=true then (some false) else (if t213=true then (some false) else ((schema_Batch.f bt176.1 bt176.2.1 bt176.2.2.1 bt176.2.2.2 (([t183,y192] : List (List (S34))))).bind fun t217=>(if t217=21 then ((schema_Batch.f bt176.1 bt176.2.1 bt176.2.2.1 bt176.2.2.2 (([t183] : List (List (S34))))).bind fun t221=>(if t221=0 then ((schema_Batch.f bt176.1 bt176.2.1 bt176.2.2.1 bt176.2.2.2 ([] : List (List (S34)))).bind fun t222=>(some (t222 == 22))) else (some false))) else (some false)))))) else (some false)) else (some false)))) else (none)) else (none))) else (none)))) else (none))))) else (none)) else (none))) else (none))))))
theorem thresherlaw04_SchemaRows.mono : ∀ a0 a1 a2 a3 a4 a5 a6 a7 a8 a9 a10 a11 a12 a13 k,LeO (thresherlaw04_SchemaRows.f k a0 a1 a2 a3 a4 a5 a6 a7 a8 a9 a10 a11 a12 a13) (thresherlaw04_SchemaRows.f (k + 1) a0 a1 a2 a3 a4 a5 a6 a7 a8 a9 a10 a11 a12 a13):=by
 intro a0 a1 a2 a3 a4 a5 a6 a7 a8 a9 a10 a11 a12 a13 k
 unfold thresherlaw04_SchemaRows.f
 repeat' first
   | (with_reducible exact thresherlaw04_made.mono _ _ _ _ _ _ _ _ _ _ _ _ _)
   | (with_reducible exact thresherlaw04_shown.mono _)
   | (with_reducible exact thresherref04_Fit.mono _ _ _ _ _ _)
   | (with_reducible exact LeO.refl _)
   | (with_reducible exact LeO.none _)
   | (with_reducible refine LeO.ite ?_ ?_)
   | (with_reducible refine LeO.bind ?_ (fun _=>?_))
   | exact thresherlaw04_made.mono _ _ _ _ _ _ _ _ _ _ _ _ _
   | exact thresherlaw04_shown.mono _
   | exact thresherref04_Fit.mono _ _ _ _ _ _
   | exact LeO.none _
   | refine LeO.ite ?_ ?_
   | refine LeO.bind ?_ (fun _=>?_)
def thresherlaw04_SchemaRows.T8 : Bool × List (List Nat × List Nat):=(true,[([],[]),([],[]),([],[]),([1,2],[1,2]),([],[]),([4],[4]),([3,5,3],[3,5]),([0,6,6],[0,6]),([7,7,0,1,2,3,4,5,6,7],[7])])
def thresherlaw04_SchemaRows.B8 : List Nat:=[0,0,0,6,0,16,62,127,255]
theorem thresherlaw04_SchemaRows.tab8 : rtab .any (opsOf Try.f3 8)=thresherlaw04_SchemaRows.T8:=by kernel_rfl
theorem thresherlaw04_SchemaRows.bits8 : waitsOk thresherlaw04_SchemaRows.T8.2 thresherlaw04_SchemaRows.B8=true:=by kernel_rfl
def thresherlaw04_SchemaRows.T9 : Bool × List (List Nat × List Nat):=(true,[([],[]),([],[]),([],[]),([2],[2]),([3],[3]),([1,4],[1,4]),([0,5],[0,5]),([6,6,0,1,2,3,4,5,6],[6])])
def thresherlaw04_SchemaRows.B9 : List Nat:=[0,0,0,4,12,30,63,127]
theorem thresherlaw04_SchemaRows.tab9 : rtab .any (opsOf Try.f3 9)=thresherlaw04_SchemaRows.T9:=by kernel_rfl
theorem thresherlaw04_SchemaRows.bits9 : waitsOk thresherlaw04_SchemaRows.T9.2 thresherlaw04_SchemaRows.B9=true:=by kernel_rfl
structure thresherlaw04_SchemaRows.calls_later (P : Prop) : Prop where
  out : P
set_option maxHeartbeats 8000000 in
set_option maxRecDepth 100000 in
noncomputable def thresherlaw04_SchemaRows.calls_part :
  (hP0_ : Prop) ×' (hP1_ : Prop) ×' (hP2_ : Prop) ×' (thresherlaw04_SchemaRows.calls_later hP0_ → thresherlaw04_SchemaRows.calls_later hP1_ → thresherlaw04_SchemaRows.calls_later hP2_ → ∀ (k : Nat) (a0_0 : Int) (a0_1 : Int) (a0_2 : Int) (a0_3 : Int) (a0_4 : Int) (a0_5 : Int) (a0_6 : Int) (a0_7 : Int) (a0_8 : Int) (a0_9 : Int) (a0_10 : Int) (a0_11 : Int) (A1 : Option Addr) (c1 : Nat) (l1 : List (S34)) (a2 : Int) (r : Bool) (w : World) (hr1 : Kd.C k34 w A1 l1.length l1) (hc1 : l1.length≤c1) (h : thresherlaw04_SchemaRows.f k a0_0 a0_1 a0_2 a0_3 a0_4 a0_5 a0_6 a0_7 a0_8 a0_9 a0_10 a0_11 l1 a2=some r), Calls Try.prog 3 #[.agg #[.int .u8 a0_0,.int .u8 a0_1,.int .u8 a0_2,.int .u8 a0_3,.int .u8 a0_4,.int .u8 a0_5,.int .u8 a0_6,.int .u8 a0_7,.int .u8 a0_8,.int .u8 a0_9,.int .u8 a0_10,.int .u8 a0_11],.slice A1 l1.length c1,.int .u8 a2] w fun e w'=>e=.returned (.bool r)∧Below w.heap.size w w'):= by
 apply PSigma.mk
 apply PSigma.mk
 apply PSigma.mk
 · intro hp0_ hp1_ hp2_
   intro k a0_0 a0_1 a0_2 a0_3 a0_4 a0_5 a0_6 a0_7 a0_8 a0_9 a0_10 a0_11 A1 c1 l1 a2 r w hr1 hc1 h
   have hu24:=Try.underlying24
   have hu30:=Try.underlying30
   have hu34:=Try.underlying34
   have HR1:=Aside0.mk hr1
   have HC1:=Aside0.mk hc1
   clear hr1 hc1
   have HB:=Aside0.mk (Below.refl w.heap.size w)
   have H : ((thresherlaw04_shown.f k).bind fun t175=>((thresherlaw04_made.f k a0_0 a0_1 a0_2 a0_3 a0_4 a0_5 a0_6 a0_7 a0_8 a0_9 a0_10 a0_11).bind fun bt176=>((thresherref04_Fit.f k bt176.1 bt176.2.1 bt176.2.2.1 bt176.2.2.2 l1).bind fun t183=>(if (t183.length : Int)=0 then (none) else ((some (([] : List (S34)) : List (S34))).bind fun y186=>(if y186.length + t183.length < 5864062014805 then ((some (y186 ++ t183 : List (S34))).bind fun y189=>(if 0≤(Int.tmod (wrap64 (a2)) (t183.length : Int)) then (if (Int.tmod (wrap64 (a2)) (t183.length : Int)) < (y189.length : Int) then ((some (y189.set ((Int.tmod (wrap64 (a2)) (t183.length : Int)) : Int).toNat (⟨1,(⟨#[120]⟩ : ByteArray)⟩ : S34) : List (S34))).bind fun y192=>((schema_Row.f bt176.1 bt176.2.1 bt176.2.2.1 bt176.2.2.2 t183).bind fun t193=>((some (([] : List (S34)) : List (S34))).bind fun y194=>(if y194.length + t183.length < 5864062014805 then ((some (y194 ++ t183 : List (S34))).bind fun y197=>((some (([(⟨0,(⟨#[]⟩ : ByteArray)⟩ : S34)] : List (S34)) : List (S34))).bind fun y200=>(if y197.length + y200.length < 5864062014805 then ((schema_Row.f bt176.1 bt176.2.1 bt176.2.2.1 bt176.2.2.2 (y197 ++ y200)).bind fun t206=>(if 0≤(wrap64 ((t183.length : Int) - 1)) then (if (wrap64 ((t183.length : Int) - 1))≤(t183.length : Int) then ((schema_Row.f bt176.1 bt176.2.1 bt176.2.2.1 bt176.2.2.2 (t183.take ((wrap64 ((t183.length : Int) - 1)) : Int).toNat)).bind fun t212=>((schema_Row.f bt176.1 bt176.2.1 bt176.2.2.1 bt176.2.2.2 y192).bind fun t213=>(if t175=true then (if t193=true then (if t206=true then (some false) else (if t212=true then (some false) else (if t213=true then (some false) else ((schema_Batch.f bt176.1 bt176.2.1 bt176.2.2.1 bt176.2.2.2 (([t183,y192] : List (List (S34))))).bind fun t217=>(if t217=21 then ((schema_Batch.f bt176.1 bt176.2.1 bt176.2.2.1 bt176.2.2.2 (([t183] : List (List (S34))))).bind fun t221=>(if t221=0 then ((schema_Batch.f bt176.1 bt176.2.1 bt176.2.2.1 bt176.2.2.2 ([] : List (List (S34)))).bind fun t222=>(some (t222 == 22))) else (some false))) else (some false)))))) else (some false)) else (some false)))) else (none)) else (none))) else (none)))) else (none))))) else (none)) else (none))) else (none)))))))=some r:=h
   clear h
   replace H:=Option.bind_eq_some_iff.mp H
   obtain ⟨t175,A40,H⟩:=H
   replace H : ((thresherlaw04_made.f k a0_0 a0_1 a0_2 a0_3 a0_4 a0_5 a0_6 a0_7 a0_8 a0_9 a0_10 a0_11).bind fun bt176=>((thresherref04_Fit.f k bt176.1 bt176.2.1 bt176.2.2.1 bt176.2.2.2 l1).bind fun t183=>(if (t183.length : Int)=0 then (none) else ((some (([] : List (S34)) : List (S34))).bind fun y186=>(if y186.length + t183.length < 5864062014805 then ((some (y186 ++ t183 : List (S34))).bind fun y189=>(if 0≤(Int.tmod (wrap64 (a2)) (t183.length : Int)) then (if (Int.tmod (wrap64 (a2)) (t183.length : Int)) < (y189.length : Int) then ((some (y189.set ((Int.tmod (wrap64 (a2)) (t183.length : Int)) : Int).toNat (⟨1,(⟨#[120]⟩ : ByteArray)⟩ : S34) : List (S34))).bind fun y192=>((schema_Row.f bt176.1 bt176.2.1 bt176.2.2.1 bt176.2.2.2 t183).bind fun t193=>((some (([] : List (S34)) : List (S34))).bind fun y194=>(if y194.length + t183.length < 5864062014805 then ((some (y194 ++ t183 : List (S34))).bind fun y197=>((some (([(⟨0,(⟨#[]⟩ : ByteArray)⟩ : S34)] : List (S34)) : List (S34))).bind fun y200=>(if y197.length + y200.length < 5864062014805 then ((schema_Row.f bt176.1 bt176.2.1 bt176.2.2.1 bt176.2.2.2 (y197 ++ y200)).bind fun t206=>(if 0≤(wrap64 ((t183.length : Int) - 1)) then (if (wrap64 ((t183.length : Int) - 1))≤(t183.length : Int) then ((schema_Row.f bt176.1 bt176.2.1 bt176.2.2.1 bt176.2.2.2 (t183.take ((wrap64 ((t183.length : Int) - 1)) : Int).toNat)).bind fun t212=>((schema_Row.f bt176.1 bt176.2.1 bt176.2.2.1 bt176.2.2.2 y192).bind fun t213=>(if t175=true then (if t193=true then (if t206=true then (some false) else (if t212=true then (some false) else (if t213=true then (some false) else ((schema_Batch.f bt176.1 bt176.2.1 bt176.2.2.1 bt176.2.2.2 (([t183,y192] : List (List (S34))))).bind fun t217=>(if t217=21 then ((schema_Batch.f bt176.1 bt176.2.1 bt176.2.2.1 bt176.2.2.2 (([t183] : List (List (S34))))).bind fun t221=>(if t221=0 then ((schema_Batch.f bt176.1 bt176.2.1 bt176.2.2.1 bt176.2.2.2 ([] : List (List (S34)))).bind fun t222=>(some (t222 == 22))) else (some false))) else (some false)))))) else (some false)) else (some false)))) else (none)) else (none))) else (none)))) else (none))))) else (none)) else (none))) else (none))))))=some r:=H
   have A4:=Aside0.mk A40
   clear A40
   replace H:=Option.bind_eq_some_iff.mp H
   obtain ⟨⟨t176,t179,t180,t181⟩,A50,H⟩:=H
   replace H : ((thresherref04_Fit.f k t176 t179 t180 t181 l1).bind fun t183=>(if (t183.length : Int)=0 then (none) else ((some (([] : List (S34)) : List (S34))).bind fun y186=>(if y186.length + t183.length < 5864062014805 then ((some (y186 ++ t183 : List (S34))).bind fun y189=>(if 0≤(Int.tmod (wrap64 (a2)) (t183.length : Int)) then (if (Int.tmod (wrap64 (a2)) (t183.length : Int)) < (y189.length : Int) then ((some (y189.set ((Int.tmod (wrap64 (a2)) (t183.length : Int)) : Int).toNat (⟨1,(⟨#[120]⟩ : ByteArray)⟩ : S34) : List (S34))).bind fun y192=>((schema_Row.f t176 t179 t180 t181 t183).bind fun t193=>((some (([] : List (S34)) : List (S34))).bind fun y194=>(if y194.length + t183.length < 5864062014805 then ((some (y194 ++ t183 : List (S34))).bind fun y197=>((some (([(⟨0,(⟨#[]⟩ : ByteArray)⟩ : S34)] : List (S34)) : List (S34))).bind fun y200=>(if y197.length + y200.length < 5864062014805 then ((schema_Row.f t176 t179 t180 t181 (y197 ++ y200)).bind fun t206=>(if 0≤(wrap64 ((t183.length : Int) - 1)) then (if (wrap64 ((t183.length : Int) - 1))≤(t183.length : Int) then ((schema_Row.f t176 t179 t180 t181 (t183.take ((wrap64 ((t183.length : Int) - 1)) : Int).toNat)).bind fun t212=>((schema_Row.f t176 t179 t180 t181 y192).bind fun t213=>(if t175=true then (if t193=true then (if t206=true then (some false) else (if t212=true then (some false) else (if t213=true then (some false) else ((schema_Batch.f t176 t179 t180 t181 (([t183,y192] : List (List (S34))))).bind fun t217=>(if t217=21 then ((schema_Batch.f t176 t179 t180 t181 (([t183] : List (List (S34))))).bind fun t221=>(if t221=0 then ((schema_Batch.f t176 t179 t180 t181 ([] : List (List (S34)))).bind fun t222=>(some (t222 == 22))) else (some false))) else (some false)))))) else (some false)) else (some false)))) else (none)) else (none))) else (none)))) else (none))))) else (none)) else (none))) else (none)))))=some r:=H
   have A5:=Aside0.mk A50
   clear A50
   replace H:=Option.bind_eq_some_iff.mp H
   obtain ⟨t183,A60,H⟩:=H
   replace H : (if (t183.length : Int)=0 then (none) else ((some (([] : List (S34)) : List (S34))).bind fun y186=>(if y186.length + t183.length < 5864062014805 then ((some (y186 ++ t183 : List (S34))).bind fun y189=>(if 0≤(Int.tmod (wrap64 (a2)) (t183.length : Int)) then (if (Int.tmod (wrap64 (a2)) (t183.length : Int)) < (y189.length : Int) then ((some (y189.set ((Int.tmod (wrap64 (a2)) (t183.length : Int)) : Int).toNat (⟨1,(⟨#[120]⟩ : ByteArray)⟩ : S34) : List (S34))).bind fun y192=>((schema_Row.f t176 t179 t180 t181 t183).bind fun t193=>((some (([] : List (S34)) : List (S34))).bind fun y194=>(if y194.length + t183.length < 5864062014805 then ((some (y194 ++ t183 : List (S34))).bind fun y197=>((some (([(⟨0,(⟨#[]⟩ : ByteArray)⟩ : S34)] : List (S34)) : List (S34))).bind fun y200=>(if y197.length + y200.length < 5864062014805 then ((schema_Row.f t176 t179 t180 t181 (y197 ++ y200)).bind fun t206=>(if 0≤(wrap64 ((t183.length : Int) - 1)) then (if (wrap64 ((t183.length : Int) - 1))≤(t183.length : Int) then ((schema_Row.f t176 t179 t180 t181 (t183.take ((wrap64 ((t183.length : Int) - 1)) : Int).toNat)).bind fun t212=>((schema_Row.f t176 t179 t180 t181 y192).bind fun t213=>(if t175=true then (if t193=true then (if t206=true then (some false) else (if t212=true then (some false) else (if t213=true then (some false) else ((schema_Batch.f t176 t179 t180 t181 (([t183,y192] : List (List (S34))))).bind fun t217=>(if t217=21 then ((schema_Batch.f t176 t179 t180 t181 (([t183] : List (List (S34))))).bind fun t221=>(if t221=0 then ((schema_Batch.f t176 t179 t180 t181 ([] : List (List (S34)))).bind fun t222=>(some (t222 == 22))) else (some false))) else (some false)))))) else (some false)) else (some false)))) else (none)) else (none))) else (none)))) else (none))))) else (none)) else (none))) else (none))))=some r:=H
   have A6:=Aside0.mk A60
   clear A60
   by_cases c7 : (t183.length : Int)=0
   ·rw [if_pos c7] at H
    exact absurd H (by simp)
   ·rw [if_neg c7] at H
    have c7b0 : ((t183.length : Int) == 0)=false:=beq_eq_false_iff_ne.mpr c7
    have c7b1 : ((t183.length : Int) != 0)=true:=bne_iff_ne.mpr c7
    have c7b2 : ¬ (t183=[]):=fun h_=>c7 (by rw [h_];rfl)
    obtain ⟨y186,hy186⟩ : ∃ y_ : List (S34),y_=(([] : List (S34))):=⟨_,rfl⟩
    replace H : (if y186.length + t183.length < 5864062014805 then ((some (y186 ++ t183 : List (S34))).bind fun y189=>(if 0≤(Int.tmod (wrap64 (a2)) (t183.length : Int)) then (if (Int.tmod (wrap64 (a2)) (t183.length : Int)) < (y189.length : Int) then ((some (y189.set ((Int.tmod (wrap64 (a2)) (t183.length : Int)) : Int).toNat (⟨1,(⟨#[120]⟩ : ByteArray)⟩ : S34) : List (S34))).bind fun y192=>((schema_Row.f t176 t179 t180 t181 t183).bind fun t193=>((some (([] : List (S34)) : List (S34))).bind fun y194=>(if y194.length + t183.length < 5864062014805 then ((some (y194 ++ t183 : List (S34))).bind fun y197=>((some (([(⟨0,(⟨#[]⟩ : ByteArray)⟩ : S34)] : List (S34)) : List (S34))).bind fun y200=>(if y197.length + y200.length < 5864062014805 then ((schema_Row.f t176 t179 t180 t181 (y197 ++ y200)).bind fun t206=>(if 0≤(wrap64 ((t183.length : Int) - 1)) then (if (wrap64 ((t183.length : Int) - 1))≤(t183.length : Int) then ((schema_Row.f t176 t179 t180 t181 (t183.take ((wrap64 ((t183.length : Int) - 1)) : Int).toNat)).bind fun t212=>((schema_Row.f t176 t179 t180 t181 y192).bind fun t213=>(if t175=true then (if t193=true then (if t206=true then (some false) else (if t212=true then (some false) else (if t213=true then (some false) else ((schema_Batch.f t176 t179 t180 t181 (([t183,y192] : List (List (S34))))).bind fun t217=>(if t217=21 then ((schema_Batch.f t176 t179 t180 t181 (([t183] : List (List (S34))))).bind fun t221=>(if t221=0 then ((schema_Batch.f t176 t179 t180 t181 ([] : List (List (S34)))).bind fun t222=>(some (t222 == 22))) else (some false))) else (some false)))))) else (some false)) else (some false)))) else (none)) else (none))) else (none)))) else (none))))) else (none)) else (none))) else (none))=some r:=by first|(rw [hy186];with_reducible exact H)|(have H2_:=(Option.bind_some _ _).symm.trans H;rw [hy186];with_reducible exact H2_)|(have H2_:=(Option.bind_some _ _).symm.trans H;with_reducible exact H2_)|with_reducible exact H|(rw [hy186];exact H)|exact H
    have Ny186:=Aside0.mk hy186
    clear hy186
    by_cases c8 : y186.length + t183.length < 5864062014805
    ·rw [if_pos c8] at H
     have LMc8:=Aside0.mk c8
     clear c8
     obtain ⟨y189,hy189⟩ : ∃ y_ : List (S34),y_=(y186 ++ t183):=⟨_,rfl⟩
     replace H : (if 0≤(Int.tmod (wrap64 (a2)) (t183.length : Int)) then (if (Int.tmod (wrap64 (a2)) (t183.length : Int)) < (y189.length : Int) then ((some (y189.set ((Int.tmod (wrap64 (a2)) (t183.length : Int)) : Int).toNat (⟨1,(⟨#[120]⟩ : ByteArray)⟩ : S34) : List (S34))).bind fun y192=>((schema_Row.f t176 t179 t180 t181 t183).bind fun t193=>((some (([] : List (S34)) : List (S34))).bind fun y194=>(if y194.length + t183.length < 5864062014805 then ((some (y194 ++ t183 : List (S34))).bind fun y197=>((some (([(⟨0,(⟨#[]⟩ : ByteArray)⟩ : S34)] : List (S34)) : List (S34))).bind fun y200=>(if y197.length + y200.length < 5864062014805 then ((schema_Row.f t176 t179 t180 t181 (y197 ++ y200)).bind fun t206=>(if 0≤(wrap64 ((t183.length : Int) - 1)) then (if (wrap64 ((t183.length : Int) - 1))≤(t183.length : Int) then ((schema_Row.f t176 t179 t180 t181 (t183.take ((wrap64 ((t183.length : Int) - 1)) : Int).toNat)).bind fun t212=>((schema_Row.f t176 t179 t180 t181 y192).bind fun t213=>(if t175=true then (if t193=true then (if t206=true then (some false) else (if t212=true then (some false) else (if t213=true then (some false) else ((schema_Batch.f t176 t179 t180 t181 (([t183,y192] : List (List (S34))))).bind fun t217=>(if t217=21 then ((schema_Batch.f t176 t179 t180 t181 (([t183] : List (List (S34))))).bind fun t221=>(if t221=0 then ((schema_Batch.f t176 t179 t180 t181 ([] : List (List (S34)))).bind fun t222=>(some (t222 == 22))) else (some false))) else (some false)))))) else (some false)) else (some false)))) else (none)) else (none))) else (none)))) else (none))))) else (none)) else (none))=some r:=by first|(rw [hy189];with_reducible exact H)|(have H2_:=(Option.bind_some _ _).symm.trans H;rw [hy189];with_reducible exact H2_)|(have H2_:=(Option.bind_some _ _).symm.trans H;with_reducible exact H2_)|with_reducible exact H|(rw [hy189];exact H)|exact H
     have Ny189:=Aside0.mk hy189
     clear hy189
     obtain ⟨ji9,hji9⟩ : ∃ j_ : Int,(Int.tmod (wrap64 (a2)) (t183.length : Int))=j_:=⟨_,rfl⟩
     replace H : (if 0≤(ji9) then (if (ji9) < (y189.length : Int) then ((some (y189.set ((ji9) : Int).toNat (⟨1,(⟨#[120]⟩ : ByteArray)⟩ : S34) : List (S34))).bind fun y192=>((schema_Row.f t176 t179 t180 t181 t183).bind fun t193=>((some (([] : List (S34)) : List (S34))).bind fun y194=>(if y194.length + t183.length < 5864062014805 then ((some (y194 ++ t183 : List (S34))).bind fun y197=>((some (([(⟨0,(⟨#[]⟩ : ByteArray)⟩ : S34)] : List (S34)) : List (S34))).bind fun y200=>(if y197.length + y200.length < 5864062014805 then ((schema_Row.f t176 t179 t180 t181 (y197 ++ y200)).bind fun t206=>(if 0≤(wrap64 ((t183.length : Int) - 1)) then (if (wrap64 ((t183.length : Int) - 1))≤(t183.length : Int) then ((schema_Row.f t176 t179 t180 t181 (t183.take ((wrap64 ((t183.length : Int) - 1)) : Int).toNat)).bind fun t212=>((schema_Row.f t176 t179 t180 t181 y192).bind fun t213=>(if t175=true then (if t193=true then (if t206=true then (some false) else (if t212=true then (some false) else (if t213=true then (some false) else ((schema_Batch.f t176 t179 t180 t181 (([t183,y192] : List (List (S34))))).bind fun t217=>(if t217=21 then ((schema_Batch.f t176 t179 t180 t181 (([t183] : List (List (S34))))).bind fun t221=>(if t221=0 then ((schema_Batch.f t176 t179 t180 t181 ([] : List (List (S34)))).bind fun t222=>(some (t222 == 22))) else (some false))) else (some false)))))) else (some false)) else (some false)))) else (none)) else (none))) else (none)))) else (none))))) else (none)) else (none))=some r:=by first|(rw [hji9] at H;exact H)|(simp only [hji9] at H ⊢;exact H)
     (try rw [hji9] at A4)
     (try rw [hji9] at A5)
     (try rw [hji9] at A6)
     by_cases c10 : 0≤(ji9)
     ·rw [if_pos c10] at H
      have c10b0 : decide (0≤(ji9))=true:=decide_eq_true c10
      clear c10
      by_cases c11 : (ji9) < (y189.length : Int)
      ·rw [if_pos c11] at H
       have c11b0 : decide ((ji9) < (y189.length : Int))=true:=decide_eq_true c11
       clear c11
       obtain ⟨y192,hy192⟩ : ∃ y_ : List (S34),y_=(y189.set ((ji9) : Int).toNat (⟨1,(⟨#[120]⟩ : ByteArray)⟩ : S34)):=⟨_,rfl⟩
       replace H : ((schema_Row.f t176 t179 t180 t181 t183).bind fun t193=>((some (([] : List (S34)) : List (S34))).bind fun y194=>(if y194.length + t183.length < 5864062014805 then ((some (y194 ++ t183 : List (S34))).bind fun y197=>((some (([(⟨0,(⟨#[]⟩ : ByteArray)⟩ : S34)] : List (S34)) : List (S34))).bind fun y200=>(if y197.length + y200.length < 5864062014805 then ((schema_Row.f t176 t179 t180 t181 (y197 ++ y200)).bind fun t206=>(if 0≤(wrap64 ((t183.length : Int) - 1)) then (if (wrap64 ((t183.length : Int) - 1))≤(t183.length : Int) then ((schema_Row.f t176 t179 t180 t181 (t183.take ((wrap64 ((t183.length : Int) - 1)) : Int).toNat)).bind fun t212=>((schema_Row.f t176 t179 t180 t181 y192).bind fun t213=>(if t175=true then (if t193=true then (if t206=true then (some false) else (if t212=true then (some false) else (if t213=true then (some false) else ((schema_Batch.f t176 t179 t180 t181 (([t183,y192] : List (List (S34))))).bind fun t217=>(if t217=21 then ((schema_Batch.f t176 t179 t180 t181 (([t183] : List (List (S34))))).bind fun t221=>(if t221=0 then ((schema_Batch.f t176 t179 t180 t181 ([] : List (List (S34)))).bind fun t222=>(some (t222 == 22))) else (some false))) else (some false)))))) else (some false)) else (some false)))) else (none)) else (none))) else (none)))) else (none))))=some r:=by first|(rw [hy192];with_reducible exact H)|(have H2_:=(Option.bind_some _ _).symm.trans H;rw [hy192];with_reducible exact H2_)|(have H2_:=(Option.bind_some _ _).symm.trans H;with_reducible exact H2_)|with_reducible exact H|(rw [hy192];exact H)|exact H
       have Ny192:=Aside0.mk hy192
       clear hy192
       replace H:=Option.bind_eq_some_iff.mp H
       obtain ⟨t193,A130,H⟩:=H
       replace H : ((some (([] : List (S34)) : List (S34))).bind fun y194=>(if y194.length + t183.length < 5864062014805 then ((some (y194 ++ t183 : List (S34))).bind fun y197=>((some (([(⟨0,(⟨#[]⟩ : ByteArray)⟩ : S34)] : List (S34)) : List (S34))).bind fun y200=>(if y197.length + y200.length < 5864062014805 then ((schema_Row.f t176 t179 t180 t181 (y197 ++ y200)).bind fun t206=>(if 0≤(wrap64 ((t183.length : Int) - 1)) then (if (wrap64 ((t183.length : Int) - 1))≤(t183.length : Int) then ((schema_Row.f t176 t179 t180 t181 (t183.take ((wrap64 ((t183.length : Int) - 1)) : Int).toNat)).bind fun t212=>((schema_Row.f t176 t179 t180 t181 y192).bind fun t213=>(if t175=true then (if t193=true then (if t206=true then (some false) else (if t212=true then (some false) else (if t213=true then (some false) else ((schema_Batch.f t176 t179 t180 t181 (([t183,y192] : List (List (S34))))).bind fun t217=>(if t217=21 then ((schema_Batch.f t176 t179 t180 t181 (([t183] : List (List (S34))))).bind fun t221=>(if t221=0 then ((schema_Batch.f t176 t179 t180 t181 ([] : List (List (S34)))).bind fun t222=>(some (t222 == 22))) else (some false))) else (some false)))))) else (some false)) else (some false)))) else (none)) else (none))) else (none)))) else (none)))=some r:=H
       have A13:=Aside0.mk A130
       clear A130
       obtain ⟨y194,hy194⟩ : ∃ y_ : List (S34),y_=(([] : List (S34))):=⟨_,rfl⟩
       replace H : (if y194.length + t183.length < 5864062014805 then ((some (y194 ++ t183 : List (S34))).bind fun y197=>((some (([(⟨0,(⟨#[]⟩ : ByteArray)⟩ : S34)] : List (S34)) : List (S34))).bind fun y200=>(if y197.length + y200.length < 5864062014805 then ((schema_Row.f t176 t179 t180 t181 (y197 ++ y200)).bind fun t206=>(if 0≤(wrap64 ((t183.length : Int) - 1)) then (if (wrap64 ((t183.length : Int) - 1))≤(t183.length : Int) then ((schema_Row.f t176 t179 t180 t181 (t183.take ((wrap64 ((t183.length : Int) - 1)) : Int).toNat)).bind fun t212=>((schema_Row.f t176 t179 t180 t181 y192).bind fun t213=>(if t175=true then (if t193=true then (if t206=true then (some false) else (if t212=true then (some false) else (if t213=true then (some false) else ((schema_Batch.f t176 t179 t180 t181 (([t183,y192] : List (List (S34))))).bind fun t217=>(if t217=21 then ((schema_Batch.f t176 t179 t180 t181 (([t183] : List (List (S34))))).bind fun t221=>(if t221=0 then ((schema_Batch.f t176 t179 t180 t181 ([] : List (List (S34)))).bind fun t222=>(some (t222 == 22))) else (some false))) else (some false)))))) else (some false)) else (some false)))) else (none)) else (none))) else (none)))) else (none))=some r:=by first|(rw [hy194];with_reducible exact H)|(have H2_:=(Option.bind_some _ _).symm.trans H;rw [hy194];with_reducible exact H2_)|(have H2_:=(Option.bind_some _ _).symm.trans H;with_reducible exact H2_)|with_reducible exact H|(rw [hy194];exact H)|exact H
       have Ny194:=Aside0.mk hy194
       clear hy194
       by_cases c14 : y194.length + t183.length < 5864062014805
       ·rw [if_pos c14] at H
        have LMc14:=Aside0.mk c14
        clear c14
        obtain ⟨y197,hy197⟩ : ∃ y_ : List (S34),y_=(y194 ++ t183):=⟨_,rfl⟩
        replace H : ((some (([(⟨0,(⟨#[]⟩ : ByteArray)⟩ : S34)] : List (S34)) : List (S34))).bind fun y200=>(if y197.length + y200.length < 5864062014805 then ((schema_Row.f t176 t179 t180 t181 (y197 ++ y200)).bind fun t206=>(if 0≤(wrap64 ((t183.length : Int) - 1)) then (if (wrap64 ((t183.length : Int) - 1))≤(t183.length : Int) then ((schema_Row.f t176 t179 t180 t181 (t183.take ((wrap64 ((t183.length : Int) - 1)) : Int).toNat)).bind fun t212=>((schema_Row.f t176 t179 t180 t181 y192).bind fun t213=>(if t175=true then (if t193=true then (if t206=true then (some false) else (if t212=true then (some false) else (if t213=true then (some false) else ((schema_Batch.f t176 t179 t180 t181 (([t183,y192] : List (List (S34))))).bind fun t217=>(if t217=21 then ((schema_Batch.f t176 t179 t180 t181 (([t183] : List (List (S34))))).bind fun t221=>(if t221=0 then ((schema_Batch.f t176 t179 t180 t181 ([] : List (List (S34)))).bind fun t222=>(some (t222 == 22))) else (some false))) else (some false)))))) else (some false)) else (some false)))) else (none)) else (none))) else (none)))=some r:=by first|(rw [hy197];with_reducible exact H)|(have H2_:=(Option.bind_some _ _).symm.trans H;rw [hy197];with_reducible exact H2_)|(have H2_:=(Option.bind_some _ _).symm.trans H;with_reducible exact H2_)|with_reducible exact H|(rw [hy197];exact H)|exact H
        have Ny197:=Aside0.mk hy197
        clear hy197
        obtain ⟨y200,hy200⟩ : ∃ y_ : List (S34),y_=(([(⟨0,(⟨#[]⟩ : ByteArray)⟩ : S34)] : List (S34))):=⟨_,rfl⟩
        replace H : (if y197.length + y200.length < 5864062014805 then ((schema_Row.f t176 t179 t180 t181 (y197 ++ y200)).bind fun t206=>(if 0≤(wrap64 ((t183.length : Int) - 1)) then (if (wrap64 ((t183.length : Int) - 1))≤(t183.length : Int) then ((schema_Row.f t176 t179 t180 t181 (t183.take ((wrap64 ((t183.length : Int) - 1)) : Int).toNat)).bind fun t212=>((schema_Row.f t176 t179 t180 t181 y192).bind fun t213=>(if t175=true then (if t193=true then (if t206=true then (some false) else (if t212=true then (some false) else (if t213=true then (some false) else ((schema_Batch.f t176 t179 t180 t181 (([t183,y192] : List (List (S34))))).bind fun t217=>(if t217=21 then ((schema_Batch.f t176 t179 t180 t181 (([t183] : List (List (S34))))).bind fun t221=>(if t221=0 then ((schema_Batch.f t176 t179 t180 t181 ([] : List (List (S34)))).bind fun t222=>(some (t222 == 22))) else (some false))) else (some false)))))) else (some false)) else (some false)))) else (none)) else (none))) else (none))=some r:=by first|(rw [hy200];with_reducible exact H)|(have H2_:=(Option.bind_some _ _).symm.trans H;rw [hy200];with_reducible exact H2_)|(have H2_:=(Option.bind_some _ _).symm.trans H;with_reducible exact H2_)|with_reducible exact H|(rw [hy200];exact H)|exact H
        have Ny200:=Aside0.mk hy200
        clear hy200
        by_cases c15 : y197.length + y200.length < 5864062014805
        ·rw [if_pos c15] at H
         have LMc15:=Aside0.mk c15
         clear c15
         obtain ⟨y203,hy203⟩ : ∃ y_ : List (S34),y_=(y197 ++ y200):=⟨_,rfl⟩
         replace H : ((schema_Row.f t176 t179 t180 t181 y203).bind fun t206=>(if 0≤(wrap64 ((t183.length : Int) - 1)) then (if (wrap64 ((t183.length : Int) - 1))≤(t183.length : Int) then ((schema_Row.f t176 t179 t180 t181 (t183.take ((wrap64 ((t183.length : Int) - 1)) : Int).toNat)).bind fun t212=>((schema_Row.f t176 t179 t180 t181 y192).bind fun t213=>(if t175=true then (if t193=true then (if t206=true then (some false) else (if t212=true then (some false) else (if t213=true then (some false) else ((schema_Batch.f t176 t179 t180 t181 (([t183,y192] : List (List (S34))))).bind fun t217=>(if t217=21 then ((schema_Batch.f t176 t179 t180 t181 (([t183] : List (List (S34))))).bind fun t221=>(if t221=0 then ((schema_Batch.f t176 t179 t180 t181 ([] : List (List (S34)))).bind fun t222=>(some (t222 == 22))) else (some false))) else (some false)))))) else (some false)) else (some false)))) else (none)) else (none)))=some r:=by first|(rw [hy203];with_reducible exact H)|(have H2_:=(Option.bind_some _ _).symm.trans H;rw [hy203];with_reducible exact H2_)|(have H2_:=(Option.bind_some _ _).symm.trans H;with_reducible exact H2_)|with_reducible exact H|(rw [hy203];exact H)|exact H
         have Ny203:=Aside0.mk hy203
         clear hy203
         replace H:=Option.bind_eq_some_iff.mp H
         obtain ⟨t206,A160,H⟩:=H
         replace H : (if 0≤(wrap64 ((t183.length : Int) - 1)) then (if (wrap64 ((t183.length : Int) - 1))≤(t183.length : Int) then ((schema_Row.f t176 t179 t180 t181 (t183.take ((wrap64 ((t183.length : Int) - 1)) : Int).toNat)).bind fun t212=>((schema_Row.f t176 t179 t180 t181 y192).bind fun t213=>(if t175=true then (if t193=true then (if t206=true then (some false) else (if t212=true then (some false) else (if t213=true then (some false) else ((schema_Batch.f t176 t179 t180 t181 (([t183,y192] : List (List (S34))))).bind fun t217=>(if t217=21 then ((schema_Batch.f t176 t179 t180 t181 (([t183] : List (List (S34))))).bind fun t221=>(if t221=0 then ((schema_Batch.f t176 t179 t180 t181 ([] : List (List (S34)))).bind fun t222=>(some (t222 == 22))) else (some false))) else (some false)))))) else (some false)) else (some false)))) else (none)) else (none))=some r:=H
         have A16:=Aside0.mk A160
         clear A160
         obtain ⟨ji17,hji17⟩ : ∃ j_ : Int,(wrap64 ((t183.length : Int) - 1))=j_:=⟨_,rfl⟩
         replace H : (if 0≤(ji17) then (if (ji17)≤(t183.length : Int) then ((schema_Row.f t176 t179 t180 t181 (t183.take ((ji17) : Int).toNat)).bind fun t212=>((schema_Row.f t176 t179 t180 t181 y192).bind fun t213=>(if t175=true then (if t193=true then (if t206=true then (some false) else (if t212=true then (some false) else (if t213=true then (some false) else ((schema_Batch.f t176 t179 t180 t181 (([t183,y192] : List (List (S34))))).bind fun t217=>(if t217=21 then ((schema_Batch.f t176 t179 t180 t181 (([t183] : List (List (S34))))).bind fun t221=>(if t221=0 then ((schema_Batch.f t176 t179 t180 t181 ([] : List (List (S34)))).bind fun t222=>(some (t222 == 22))) else (some false))) else (some false)))))) else (some false)) else (some false)))) else (none)) else (none))=some r:=by first|(rw [hji17] at H;exact H)|(simp only [hji17] at H ⊢;exact H)
         (try rw [hji17] at A4)
         (try rw [hji17] at A5)
         (try rw [hji17] at A6)
         (try rw [hji17] at A13)
         (try rw [hji17] at A16)
         have hji17w : (IntKind.i64.wrap ((t183.length : Int) - 1))=ji17:=(i64_w _).trans hji17
         by_cases c18 : 0≤(ji17)
         ·rw [if_pos c18] at H
          have c18b0:=eq_true c18
          have c18b1 : decide (0≤(ji17))=true:=decide_eq_true c18
          clear c18
          by_cases c19 : (ji17)≤(t183.length : Int)
          ·rw [if_pos c19] at H
           have c19b0:=eq_true c19
           have c19b1 : decide ((ji17)≤(t183.length : Int))=true:=decide_eq_true c19
           clear c19
           obtain ⟨y207,hy207⟩ : ∃ y_ : List (S34),y_=(t183.take ((ji17) : Int).toNat):=⟨_,rfl⟩
           replace H : ((schema_Row.f t176 t179 t180 t181 y207).bind fun t212=>((schema_Row.f t176 t179 t180 t181 y192).bind fun t213=>(if t175=true then (if t193=true then (if t206=true then (some false) else (if t212=true then (some false) else (if t213=true then (some false) else ((schema_Batch.f t176 t179 t180 t181 (([t183,y192] : List (List (S34))))).bind fun t217=>(if t217=21 then ((schema_Batch.f t176 t179 t180 t181 (([t183] : List (List (S34))))).bind fun t221=>(if t221=0 then ((schema_Batch.f t176 t179 t180 t181 ([] : List (List (S34)))).bind fun t222=>(some (t222 == 22))) else (some false))) else (some false)))))) else (some false)) else (some false))))=some r:=by first|(rw [hy207];with_reducible exact H)|(have H2_:=(Option.bind_some _ _).symm.trans H;rw [hy207];with_reducible exact H2_)|(have H2_:=(Option.bind_some _ _).symm.trans H;with_reducible exact H2_)|with_reducible exact H|(rw [hy207];exact H)|exact H
           have Ny207:=Aside0.mk hy207
           clear hy207
           replace H:=Option.bind_eq_some_iff.mp H
           obtain ⟨t212,A200,H⟩:=H
           replace H : ((schema_Row.f t176 t179 t180 t181 y192).bind fun t213=>(if t175=true then (if t193=true then (if t206=true then (some false) else (if t212=true then (some false) else (if t213=true then (some false) else ((schema_Batch.f t176 t179 t180 t181 (([t183,y192] : List (List (S34))))).bind fun t217=>(if t217=21 then ((schema_Batch.f t176 t179 t180 t181 (([t183] : List (List (S34))))).bind fun t221=>(if t221=0 then ((schema_Batch.f t176 t179 t180 t181 ([] : List (List (S34)))).bind fun t222=>(some (t222 == 22))) else (some false))) else (some false)))))) else (some false)) else (some false)))=some r:=H
           have A20:=Aside0.mk A200
           clear A200
           replace H:=Option.bind_eq_some_iff.mp H
           obtain ⟨t213,A210,H⟩:=H
           replace H : (if t175=true then (if t193=true then (if t206=true then (some false) else (if t212=true then (some false) else (if t213=true then (some false) else ((schema_Batch.f t176 t179 t180 t181 (([t183,y192] : List (List (S34))))).bind fun t217=>(if t217=21 then ((schema_Batch.f t176 t179 t180 t181 (([t183] : List (List (S34))))).bind fun t221=>(if t221=0 then ((schema_Batch.f t176 t179 t180 t181 ([] : List (List (S34)))).bind fun t222=>(some (t222 == 22))) else (some false))) else (some false)))))) else (some false)) else (some false))=some r:=H
           have A21:=Aside0.mk A210
           clear A210
           by_cases c22 : t175=true
           ·subst c22
            have H1 : (if t193=true then (if t206=true then (some false) else (if t212=true then (some false) else (if t213=true then (some false) else ((schema_Batch.f t176 t179 t180 t181 (([t183,y192] : List (List (S34))))).bind fun t217=>(if t217=21 then ((schema_Batch.f t176 t179 t180 t181 (([t183] : List (List (S34))))).bind fun t221=>(if t221=0 then ((schema_Batch.f t176 t179 t180 t181 ([] : List (List (S34)))).bind fun t222=>(some (t222 == 22))) else (some false))) else (some false)))))) else (some false))=some r:=by rw [if_pos rfl] at H;exact H
            clear H
            have H:=H1
            clear H1
            by_cases c23 : t193=true
            ·subst c23
             have H1 : (if t206=true then (some false) else (if t212=true then (some false) else (if t213=true then (some false) else ((schema_Batch.f t176 t179 t180 t181 (([t183,y192] : List (List (S34))))).bind fun t217=>(if t217=21 then ((schema_Batch.f t176 t179 t180 t181 (([t183] : List (List (S34))))).bind fun t221=>(if t221=0 then ((schema_Batch.f t176 t179 t180 t181 ([] : List (List (S34)))).bind fun t222=>(some (t222 == 22))) else (some false))) else (some false))))))=some r:=by rw [if_pos rfl] at H;exact H
             clear H
             have H:=H1
             clear H1
             by_cases c24 : t206=true
             ·subst c24
              have H1 : (some false)=some r:=by rw [if_pos rfl] at H;exact H
              clear H
              have H:=H1
              clear H1
              obtain rfl:=Option.some.inj H
              go_enter Try.func3,Try.ntmps3
              try go_wp2_with (first|((with_reducible refine gate_dst (N:=3) rfl ?_);(try (refine gate_guard (by rfl) ?_;dsimp only));refine box_event ?hg (N:=3) ?hd (cs:=#[.int .u8 a0_0,.int .u8 a0_1,.int .u8 a0_2,.int .u8 a0_3,.int .u8 a0_4,.int .u8 a0_5,.int .u8 a0_6,.int .u8 a0_7,.int .u8 a0_8,.int .u8 a0_9,.int .u8 a0_10,.int .u8 a0_11]) (t:=24) ?hr ?_;(case hd=>rfl);(case hg=>rfl);(case hr=>first|(go_simp;done)|(go_simp;rfl));intro gb174 hg w25 hbox hb;have n0_:=Aside0.mk (below_step (below_up HB.out) hb);have n1_:=Aside0.mk (hbox);have n2_:=Aside0.mk ((by rw [hg];exact (below_size (below_up HB.out)) : w.heap.size≤gb174));have n3_:=Aside0.mk ((by rw [hg];exact (below_size (below_up HB.out)) : w.heap.size≤gb174));clear HB;have HB:=n0_;have BK174:=n1_;have GW174:=n2_;have GE174:=n3_;clear n0_ n1_ n2_ n3_;clear hb hbox hg)|((with_reducible refine gate_callee (f:=9) rfl ?_);refine goesL_ (some 16) rfl rfl Try.func9 (by kernel_rfl) rfl #[] rfl (by (try simp only [List.map_toArray,List.map_cons,List.map_nil]);first|done|rfl|(simp only [List.length_drop,List.length_take];rfl)) ?_;(with_reducible refine (thresherlaw04_shown.calls k  true _ A4.out).mono ?_);rintro e w26 ⟨rfl,hb⟩;refine ⟨_,rfl,?_⟩;have n0_:=Aside0.mk (blk_below (blk_up BK174.out) hb);have n1_:=Aside0.mk (below_step (below_go HB.out) hb);clear BK174;clear HB;have BK174:=n0_;have HB:=n1_;clear n0_ n1_;(try clear hb);(try clear hb2);(try clear hk);(try clear hi);have hcz27_0 : w26.cell? ⟨gb174,0,none⟩=some (.int .u8 a0_0):=(blk_cell BK174.out 0).trans rfl;have hcz27_1 : w26.cell? ⟨gb174,1,none⟩=some (.int .u8 a0_1):=(blk_cell BK174.out 1).trans rfl;have hcz27_2 : w26.cell? ⟨gb174,2,none⟩=some (.int .u8 a0_2):=(blk_cell BK174.out 2).trans rfl;have hcz27_3 : w26.cell? ⟨gb174,3,none⟩=some (.int .u8 a0_3):=(blk_cell BK174.out 3).trans rfl;have hcz27_4 : w26.cell? ⟨gb174,4,none⟩=some (.int .u8 a0_4):=(blk_cell BK174.out 4).trans rfl;have hcz27_5 : w26.cell? ⟨gb174,5,none⟩=some (.int .u8 a0_5):=(blk_cell BK174.out 5).trans rfl;have hcz27_6 : w26.cell? ⟨gb174,6,none⟩=some (.int .u8 a0_6):=(blk_cell BK174.out 6).trans rfl;have hcz27_7 : w26.cell? ⟨gb174,7,none⟩=some (.int .u8 a0_7):=(blk_cell BK174.out 7).trans rfl;have hcz27_8 : w26.cell? ⟨gb174,8,none⟩=some (.int .u8 a0_8):=(blk_cell BK174.out 8).trans rfl;have hcz27_9 : w26.cell? ⟨gb174,9,none⟩=some (.int .u8 a0_9):=(blk_cell BK174.out 9).trans rfl;have hcz27_10 : w26.cell? ⟨gb174,10,none⟩=some (.int .u8 a0_10):=(blk_cell BK174.out 10).trans rfl;have hcz27_11 : w26.cell? ⟨gb174,11,none⟩=some (.int .u8 a0_11):=(blk_cell BK174.out 11).trans rfl;have hfz27_0:=blk_frozen BK174.out 0;have hfz27_1:=blk_frozen BK174.out 1;have hfz27_2:=blk_frozen BK174.out 2;have hfz27_3:=blk_frozen BK174.out 3;have hfz27_4:=blk_frozen BK174.out 4;have hfz27_5:=blk_frozen BK174.out 5;have hfz27_6:=blk_frozen BK174.out 6;have hfz27_7:=blk_frozen BK174.out 7;have hfz27_8:=blk_frozen BK174.out 8;have hfz27_9:=blk_frozen BK174.out 9;have hfz27_10:=blk_frozen BK174.out 10;have hfz27_11:=blk_frozen BK174.out 11)|((with_reducible refine gate_callee (f:=10) rfl ?_);refine goesL_ (some 18) rfl rfl Try.func10 (by kernel_rfl) rfl #[.agg #[.int .u8 a0_0,.int .u8 a0_1,.int .u8 a0_2,.int .u8 a0_3,.int .u8 a0_4,.int .u8 a0_5,.int .u8 a0_6,.int .u8 a0_7,.int .u8 a0_8,.int .u8 a0_9,.int .u8 a0_10,.int .u8 a0_11]] rfl (by (try simp only [List.map_toArray,List.map_cons,List.map_nil]);first|done|rfl|(simp only [List.length_drop,List.length_take];rfl)) ?_;(with_reducible refine (thresherlaw04_made.calls k a0_0 a0_1 a0_2 a0_3 a0_4 a0_5 a0_6 a0_7 a0_8 a0_9 a0_10 a0_11 t176 t179 t180 t181 _ A5.out).mono ?_);rintro e w28 ⟨v177,rfl,ho0,hb⟩;refine ⟨_,rfl,?_⟩;have n0_:=Aside0.mk (Kd.R_lower ho0 (below_size (below_go HB.out)));have n1_:=Aside0.mk (blk_below (blk_up BK174.out) hb);have n2_:=Aside0.mk (below_step (below_go HB.out) hb);clear BK174;clear HB;have HO178:=n0_;have BK174:=n1_;have HB:=n2_;clear n0_ n1_ n2_;(try clear hb);(try clear hb2);(try clear hk);(try clear hi);(try clear ho0))|((with_reducible refine gate_dst (N:=8) rfl ?_);(try (refine gate_guard (by rfl) ?_;dsimp only));refine box_event ?hg (N:=8) ?hd (cs:=#[.slice none 0 0,.int .i64 0,.int .i64 0,.int .i64 0]) (t:=30) ?hr ?_;(case hd=>rfl);(case hg=>rfl);(case hr=>first|(go_simp;done)|(go_simp;rfl));intro gb182 hg w29 hbox hb;have n0_:=Aside0.mk (Kd.R_below (R_up HO178.out) hb);have n1_:=Aside0.mk (blk_below (blk_up BK174.out) hb);have n2_:=Aside0.mk (below_step (below_go HB.out) hb);have n3_:=Aside0.mk (hbox);have n4_:=Aside0.mk ((by rw [hg];exact (below_size (below_go HB.out)) : w.heap.size≤gb182));have n5_:=Aside0.mk ((by rw [hg];exact (below_size (below_go HB.out)) : w.heap.size≤gb182));have n6_:=Aside0.mk ((by rw [hg];exact Nat.ne_of_lt (blk_lt (blk_up BK174.out)) : gb174≠gb182));have n7_:=Aside0.mk ((by rw [hg];exact Nat.ne_of_gt (blk_lt (blk_up BK174.out)) : gb182≠gb174));clear HO178;clear BK174;clear HB;have HO178:=n0_;have BK174:=n1_;have HB:=n2_;have BK182:=n3_;have GW182:=n4_;have GE182:=n5_;have NB174_182:=n6_;have NB182_174:=n7_;clear n0_ n1_ n2_ n3_ n4_ n5_ n6_ n7_;clear hb hbox hg;obtain ⟨Ao30,co30,eo30⟩:=Kd.R_slice HO178.out;subst eo30;have hnb31:=NB182_174.out;have hnc31:=NB174_182.out;have hcz32_0 : w29.cell? ⟨gb182,0,none⟩=some (.slice none 0 0):=(blk_cell BK182.out 0).trans rfl;have hcz32_1 : w29.cell? ⟨gb182,1,none⟩=some (.int .i64 0):=(blk_cell BK182.out 1).trans rfl;have hcz32_2 : w29.cell? ⟨gb182,2,none⟩=some (.int .i64 0):=(blk_cell BK182.out 2).trans rfl;have hcz32_3 : w29.cell? ⟨gb182,3,none⟩=some (.int .i64 0):=(blk_cell BK182.out 3).trans rfl;have hfz32_0:=blk_frozen BK182.out 0;have hfz32_1:=blk_frozen BK182.out 1;have hfz32_2:=blk_frozen BK182.out 2;have hfz32_3:=blk_frozen BK182.out 3)|((with_reducible refine gate_callee (f:=11) rfl ?_);refine goesL_ (some 21) rfl rfl Try.func11 (by kernel_rfl) rfl #[.agg #[.slice Ao30 t176.length co30,.int .i64 t179,.int .i64 t180,.int .i64 t181],.slice A1 l1.length c1] rfl (by (try simp only [List.map_toArray,List.map_cons,List.map_nil]);first|done|rfl|(simp only [List.length_drop,List.length_take];rfl)) ?_;(with_reducible refine (thresherref04_Fit.calls k _ _ t176 t179 t180 t181 _ _ l1 t183 _ ?side1 ?side2 ?side3 ?side4 A6.out).mono ?_);(case side1=>refine (Kd.R_reads' (e:=3) (base:=w.heap.size) (ok:=fun k_=>True) (n:=t176.length) (c:=co30) ?_).2.2;exact (by (with_reducible repeat (first|apply Kd.R_alloc|apply Kd.R_drewN|apply Kd.R_drew));exact (Kd.R_mono (Kd.R_far (p:=⟨gb182,3,none⟩) (Kd.R_far (p:=⟨gb182,2,none⟩) (Kd.R_far (p:=⟨gb182,1,none⟩) (Kd.R_far (p:=⟨gb182,0,none⟩) (Kd.R_types HO178.out BK182.out (by decide)) (fun _ hk=>hk.2) (.slice Ao30 t176.length co30)) (fun _ hk=>hk.2) (.int .i64 t179)) (fun _ hk=>hk.2) (.int .i64 t180)) (fun _ hk=>hk.2) (.int .i64 t181)) (fun _ h_=>h_.1))));(case side2=>exact (Kd.R_reads' HO178.out).2.1);(case side3=>exact Kd.C_below HR1.out (below_go HB.out));(case side4=>exact HC1.out);rintro e w33 ⟨v184,rfl,ho0,hb⟩;refine ⟨_,rfl,?_⟩;have n0_:=Aside0.mk (Kd.R_below (by (with_reducible repeat (first|apply Kd.R_alloc|apply Kd.R_drewN|apply Kd.R_drew));exact (Kd.R_mono (Kd.R_far (p:=⟨gb182,3,none⟩) (Kd.R_far (p:=⟨gb182,2,none⟩) (Kd.R_far (p:=⟨gb182,1,none⟩) (Kd.R_far (p:=⟨gb182,0,none⟩) (Kd.R_types HO178.out BK182.out (by decide)) (fun _ hk=>hk.2) (.slice Ao30 t176.length co30)) (fun _ hk=>hk.2) (.int .i64 t179)) (fun _ hk=>hk.2) (.int .i64 t180)) (fun _ hk=>hk.2) (.int .i64 t181)) (fun _ h_=>h_.1))) hb);have n1_:=Aside0.mk (Kd.R_lower ho0 (below_size (below_go HB.out)));have n2_:=Aside0.mk (blk_below (g:=gb174) (o:=.cells #[.int .u8 a0_0,.int .u8 a0_1,.int .u8 a0_2,.int .u8 a0_3,.int .u8 a0_4,.int .u8 a0_5,.int .u8 a0_6,.int .u8 a0_7,.int .u8 a0_8,.int .u8 a0_9,.int .u8 a0_10,.int .u8 a0_11] 24 (0,0)) (by (with_reducible repeat (first|refine blk_drewN ?_ _|refine blk_drew ?_|refine blk_alloc ?_ _));refine blk_far ?_ NB174_182.out _;(with_reducible repeat (first|refine blk_drewN ?_ _|refine blk_drew ?_|refine blk_alloc ?_ _));refine blk_far ?_ NB174_182.out _;(with_reducible repeat (first|refine blk_drewN ?_ _|refine blk_drew ?_|refine blk_alloc ?_ _));refine blk_far ?_ NB174_182.out _;(with_reducible repeat (first|refine blk_drewN ?_ _|refine blk_drew ?_|refine blk_alloc ?_ _));refine blk_far ?_ NB174_182.out _;(with_reducible repeat (first|refine blk_drewN ?_ _|refine blk_drew ?_|refine blk_alloc ?_ _));exact BK174.out) hb);have n3_:=Aside0.mk (blk_below (g:=gb182) (o:=.cells #[.slice Ao30 t176.length co30,.int .i64 t179,.int .i64 t180,.int .i64 t181] 30 (0,0)) (by (with_reducible repeat (first|refine blk_drewN ?_ _|refine blk_drew ?_|refine blk_alloc ?_ _));refine blk_put (cs:=#[.slice Ao30 t176.length co30,.int .i64 t179,.int .i64 t180,.int .i64 0]) ?_ 3 _ rfl;(with_reducible repeat (first|refine blk_drewN ?_ _|refine blk_drew ?_|refine blk_alloc ?_ _));refine blk_put (cs:=#[.slice Ao30 t176.length co30,.int .i64 t179,.int .i64 0,.int .i64 0]) ?_ 2 _ rfl;(with_reducible repeat (first|refine blk_drewN ?_ _|refine blk_drew ?_|refine blk_alloc ?_ _));refine blk_put (cs:=#[.slice Ao30 t176.length co30,.int .i64 0,.int .i64 0,.int .i64 0]) ?_ 1 _ rfl;(with_reducible repeat (first|refine blk_drewN ?_ _|refine blk_drew ?_|refine blk_alloc ?_ _));refine blk_put (cs:=#[.slice none 0 0,.int .i64 0,.int .i64 0,.int .i64 0]) ?_ 0 _ rfl;(with_reducible repeat (first|refine blk_drewN ?_ _|refine blk_drew ?_|refine blk_alloc ?_ _));exact BK182.out) hb);have n4_:=Aside0.mk (below_step (below_go HB.out) hb);clear HO178;clear BK174;clear BK182;clear HB;have HO178:=n0_;have HO185:=n1_;have BK174:=n2_;have BK182:=n3_;have HB:=n4_;clear n0_ n1_ n2_ n3_ n4_;(try clear hb);(try clear hb2);(try clear hk);(try clear hi);(try clear ho0);obtain ⟨Ao34,co34,eo34⟩:=Kd.R_slice HO185.out;subst eo34)|((with_reducible refine gate_dst (N:=27) rfl ?_);(try (refine gate_guard (by rfl) ?_;dsimp only));refine Kd.R_lit k34 _ 34 ?hg (N:=27) ?hd (xs:=([] : List (S34))) (inner:=[]) (ok:=fun _=>True) (okp:=fun _=>True) ?hr ?hp (fun _ hk=>hk) trivial (Below.refl _ _) (Nat.le_refl _) (by simp) ?_;(case hd=>rfl);(case hg=>rfl);(case hr=>first|(go_simp;done)|(go_simp;rfl));(case hp=>exact (Reps.none _ _));intro v187 w35 ho36 hb hg_ hnew_;clear hg_ hnew_;(first|rw [← Ny186.out] at ho36|(simp only [Int.reduceToNat] at ho36;rw [← Ny186.out] at ho36));have n0_:=Aside0.mk (Kd.R_below (R_up HO178.out) hb);have n1_:=Aside0.mk (Kd.R_elder' (R_up HO185.out) (Kd.R_base ho36) hb);have n2_:=Aside0.mk (Kd.R_lower (Kd.R_new' ho36 (Kd.R_lt (R_up HO185.out))) (below_size (below_go HB.out)));have n3_:=Aside0.mk (blk_below (blk_up BK174.out) hb);have n4_:=Aside0.mk (blk_below (blk_up BK182.out) hb);have n5_:=Aside0.mk (below_step (below_go HB.out) hb);clear HO178;clear HO185;clear BK174;clear BK182;clear HB;have HO178:=n0_;have HO185:=n1_;have HO188:=n2_;have BK174:=n3_;have BK182:=n4_;have HB:=n5_;clear n0_ n1_ n2_ n3_ n4_ n5_;clear hb ho36)|((with_reducible refine gate_builtin (b:=.append) (xs:=#[.tmp 27,.tmp 28]) rfl ?_);(try (refine gate_guard (by rfl) ?_;dsimp only));at_builtin;refine Kd.R_append_rows k34 (w0:=w) w.heap.size rfl (.tmp 27) (.tmp 28) 26 34 (.agg #[(.int .i64 0),(.string ⟨#[]⟩)]) 24 rfl Try.underlying26 info34 rfl (by decide) (by omega) v187 y186 t183 _ _ _ (fun k_=>some k_≠(.slice Ao34 t183.length co34 : Value).ownBlock) (fun _=>False) rfl rfl ?aO ?aR (fun _ _ h=>h) (fun _ h=>h.elim) ?aF ?aB ?aS ?aL ?_;(case aR=>repeat (first|exact (Kd.R_reads' HO185.out).2.2|(with_reducible refine Kd.C_alloc ?_ _)|(with_reducible refine Kd.C_drewN ?_ _)|(with_reducible refine Kd.C_drew ?_)));(case aB=>exact (below_go HB.out));(case aF=>exact (fun k_ hk=>Kd.fresh' (Kd.R_lt (R_up HO185.out)) k_ hk));(case aO=>exact (by (with_reducible repeat (first|apply Kd.R_alloc|apply Kd.R_drewN|apply Kd.R_drew));exact Kd.R_mono HO188.out (fun _ hk=>hk.2)));(case aS=>exact (below_size (below_go HB.out)));(case aL=>have:=LMc8.out;omega);intro v190 w37 ho hb hg hat;rw [← Ny189.out] at ho;have n0_:=Aside0.mk (blk_grown (blk_up BK174.out) hg (Kd.R_ne HO188.out BK174.out (by decide)));have n1_:=Aside0.mk (Kd.R_over' (R_up HO178.out) (Kd.R_typed (R_up HO188.out)) (by decide) hg);have n2_:=Aside0.mk (blk_grown (blk_up BK182.out) hg (Kd.R_ne HO188.out BK182.out (by decide)));have n3_:=Aside0.mk (Kd.R_after (ok:=(fun _=>True)) (R_up HO185.out) hg hat);have n4_:=Aside0.mk (hb);have n5_:=Aside0.mk (ho);clear BK174;clear HO178;clear BK182;clear HO185;clear HB;clear HO188;have BK174:=n0_;have HO178:=n1_;have BK182:=n2_;have HO185:=n3_;have HB:=n4_;have HO191:=n5_;clear n0_ n1_ n2_ n3_ n4_ n5_;clear ho hb hg hat;have p12 : 0≤((ji9) : Int):=of_decide_eq_true (by first|(with_reducible assumption)|assumption);have q12 : ((ji9) : Int) < ((y189.length : Int) : Int):=of_decide_eq_true (by first|(with_reducible assumption)|assumption);obtain ⟨go12,co12,eo12,gb12,gl12,cl12,HG12⟩:=Kd.R_form HO191.out (by omega);(first|cases eo12|(injection eo12 with ea_ en_ ec_;(first|subst ea_|(injection ea_ with ea_;subst ea_));subst ec_;clear en_));have GB12:=Aside0.mk gb12;have GG12:=Aside0.mk HG12;clear gb12 gl12 HG12;obtain ⟨ce12,hcl12,hM12,hcc12,hfr12⟩:=Kd.R_elem HO191.out z34 ((ji9) : Int) p12 q12;obtain rfl:=k34_openM hM12;have hx12_0 : w37.cell? ⟨go12,((ji9) : Int).toNat * 2,none⟩=some (.int .i64 ((rd_T34 y189 (ji9)).f0)):=hcc12 0 _ rfl;have hx12_1 : w37.cell? ⟨go12,((ji9) : Int).toNat * 2 + 1,none⟩=some (.string ((rd_T34 y189 (ji9)).f1)):=hcc12 1 _ rfl;have hf12_0 : w37.frozen? ⟨go12,((ji9) : Int).toNat * 2,none⟩=false:=hfr12 0;have hf12_1 : w37.frozen? ⟨go12,((ji9) : Int).toNat * 2 + 1,none⟩=false:=hfr12 1;clear hcl12 hcc12 hfr12 hM12;replace p12:=eq_true p12;replace q12:=eq_true q12;have HX38:=Aside0.mk (show Kd.R k34 34 w37 w.heap.size (fun k_=>some k_≠(.slice Ao34 t183.length co34 : Value).ownBlock) (.slice (some ⟨go12,0,none⟩) y189.length co12) y189 from (R_up HO191.out));obtain ⟨ce38,hcl38,hM38,hcc38,hfr38⟩:=Kd.R_elem HX38.out z34 ((ji9) : Int) (of_decide_eq_true (by first|(with_reducible assumption)|assumption)) (by have h_ : ((ji9) : Int) < ((y189.length : Int) : Int):=of_decide_eq_true (by first|(with_reducible assumption)|assumption);first|exact h_|(have e_:=(Kd.R_reads' HO191.out).1;omega)|simpa using h_);obtain rfl:=k34_openM hM38;have HP38:=Kd.R_seg HX38.out ((ji9) : Int) (of_decide_eq_true (by first|(with_reducible assumption)|assumption)) (by have h_ : ((ji9) : Int) < ((y189.length : Int) : Int):=of_decide_eq_true (by first|(with_reducible assumption)|assumption);first|exact h_|(have e_:=(Kd.R_reads' HO191.out).1;omega)|simpa using h_) (seg:=[.int .i64 1,.string (⟨#[120]⟩ : ByteArray)]) (j:=0) hcl38 hcc38 (show 2≤2 from by decide) (x':=(⟨1,(⟨#[120]⟩ : ByteArray)⟩ : S34)) (k34_mkM _ _ _ (⟨1,(⟨#[120]⟩ : ByteArray)⟩ : S34) ) (fun _ hk=>hk);have hx38_0:=hcc38 0 _ rfl;(try simp only [show (k34).sz=2 from rfl,Nat.mul_one,Nat.add_zero] at hx38_0);have hf38_0:=hfr38 0;(try simp only [show (k34).sz=2 from rfl,Nat.mul_one,Nat.add_zero] at hf38_0);have hx38_1:=hcc38 1 _ rfl;(try simp only [show (k34).sz=2 from rfl,Nat.mul_one,Nat.add_zero] at hx38_1);have hf38_1:=hfr38 1;(try simp only [show (k34).sz=2 from rfl,Nat.mul_one,Nat.add_zero] at hf38_1);clear hcl38 hcc38 hfr38 hM38)|((with_reducible refine gate_store (t:=34) (p:=33) rfl ?_);refine store_event (t:=34) (p:=33) (v:=?vo_w39) (w1:=((w37.setCell ⟨go12,((ji9) : Int).toNat * 2,none⟩ (.int .i64 1)).setCell ⟨go12,((ji9) : Int).toNat * 2 + 1,none⟩ (.string (⟨#[120]⟩ : ByteArray)))) ?hg ?ho ?hn ?hr ?_;(case ho=>rfl);(case hg=>rfl);(case hn=>rfl);(case hr=>first|(go_simp;done)|(go_simp;rfl));intro w39 hw;have hg : w37.grownBy w39 (some go12):=(by rw [hw];exact HP38.2);have hp_ : Kd.R k34 34 w39 w.heap.size (fun k_=>some k_≠(.slice Ao34 t183.length co34 : Value).ownBlock) (.slice (some ⟨go12,0,none⟩) y189.length co12) y192:=(by rw [hw,Ny192.out];exact HP38.1);clear HP38;have n0_:=Aside0.mk (blk_grown (blk_up BK174.out) hg (Kd.R_ne HO191.out BK174.out (by decide)));have n1_:=Aside0.mk (Kd.R_over' (v:=(.slice (some ⟨go12,0,none⟩) y189.length co12)) (R_up HO178.out) (Kd.R_typed HO191.out) (by decide) hg);have n2_:=Aside0.mk (blk_grown (blk_up BK182.out) hg (Kd.R_ne HO191.out BK182.out (by decide)));have n3_:=Aside0.mk (Kd.R_after (v:=(.slice (some ⟨go12,0,none⟩) y189.length co12)) (v1:=(.slice (some ⟨go12,0,none⟩) y189.length co12)) (ok:=(fun _=>True)) (R_up HO185.out) hg (.inl rfl));have n4_:=Aside0.mk (hp_);have n5_:=Aside0.mk ((by rw [hw];exact below_set (below_set (HB.out) GB12.out) GB12.out : Below w.heap.size w w39));clear BK174;clear HO178;clear BK182;clear HO185;clear HO191;clear HB;have BK174:=n0_;have HO178:=n1_;have BK182:=n2_;have HO185:=n3_;have HO191:=n4_;have HB:=n5_;clear n0_ n1_ n2_ n3_ n4_ n5_;clear hg hw hp_;have hcz40_0 : w39.cell? ⟨gb182,0,none⟩=some (.slice Ao30 t176.length co30):=(blk_cell BK182.out 0).trans rfl;have hcz40_1 : w39.cell? ⟨gb182,1,none⟩=some (.int .i64 t179):=(blk_cell BK182.out 1).trans rfl;have hcz40_2 : w39.cell? ⟨gb182,2,none⟩=some (.int .i64 t180):=(blk_cell BK182.out 2).trans rfl;have hcz40_3 : w39.cell? ⟨gb182,3,none⟩=some (.int .i64 t181):=(blk_cell BK182.out 3).trans rfl;have hfz40_0:=blk_frozen BK182.out 0;have hfz40_1:=blk_frozen BK182.out 1;have hfz40_2:=blk_frozen BK182.out 2;have hfz40_3:=blk_frozen BK182.out 3)|((with_reducible refine gate_callee (f:=12) rfl ?_);refine goesL_ (some 36) rfl rfl Try.func12 (by kernel_rfl) rfl #[.agg #[.slice Ao30 t176.length co30,.int .i64 t179,.int .i64 t180,.int .i64 t181],.slice Ao34 t183.length co34] rfl (by (try simp only [List.map_toArray,List.map_cons,List.map_nil]);first|done|rfl|(simp only [List.length_drop,List.length_take];rfl)) ?_;(with_reducible refine (schema_Row.calls _ _ t176 t179 t180 t181 _ _ t183 true _ ?side1 ?side2 ?side3 ?side4 A13.out).mono ?_);(case side1=>repeat (first|exact (Kd.R_reads' HO178.out).2.2|(with_reducible refine Kd.C_alloc ?_ _)|(with_reducible refine Kd.C_drewN ?_ _)|(with_reducible refine Kd.C_drew ?_)));(case side2=>exact (Kd.R_reads' HO178.out).2.1);(case side3=>repeat (first|exact (Kd.R_reads' HO185.out).2.2|(with_reducible refine Kd.C_alloc ?_ _)|(with_reducible refine Kd.C_drewN ?_ _)|(with_reducible refine Kd.C_drew ?_)));(case side4=>exact (Kd.R_reads' HO185.out).2.1);rintro e w41 ⟨rfl,hb⟩;refine ⟨_,rfl,?_⟩;have n0_:=Aside0.mk (Kd.R_below (R_up HO178.out) hb);have n1_:=Aside0.mk (Kd.R_below (R_up HO185.out) hb);have n2_:=Aside0.mk (Kd.R_below (R_up HO191.out) hb);have n3_:=Aside0.mk (blk_below (blk_up BK174.out) hb);have n4_:=Aside0.mk (blk_below (blk_up BK182.out) hb);have n5_:=Aside0.mk (below_step (below_go HB.out) hb);clear HO178;clear HO185;clear HO191;clear BK174;clear BK182;clear HB;have HO178:=n0_;have HO185:=n1_;have HO191:=n2_;have BK174:=n3_;have BK182:=n4_;have HB:=n5_;clear n0_ n1_ n2_ n3_ n4_ n5_;(try clear hb);(try clear hb2);(try clear hk);(try clear hi)))
              have n0_:=Aside0.mk (Kd.R_drew HO178.out)
              have n1_:=Aside0.mk (Kd.R_drew HO185.out)
              have n2_:=Aside0.mk (Kd.R_drew HO191.out)
              have n3_:=Aside0.mk (blk_drew BK174.out)
              have n4_:=Aside0.mk (blk_drew BK182.out)
              have n5_:=Aside0.mk (below_drew1 HB.out)
              clear HO178
              clear HO185
              clear HO191
              clear BK174
              clear BK182
              clear HB
              have HO178:=n0_
              have HO185:=n1_
              have HO191:=n2_
              have BK174:=n3_
              have BK182:=n4_
              have HB:=n5_
              clear n0_ n1_ n2_ n3_ n4_ n5_
              refine start_ (n:=9) (S:=fun w'=>w'.cell? ⟨gb182,0,none⟩=some (.slice Ao30 t176.length co30)∧w'.cell? ⟨gb182,1,none⟩=some (.int .i64 t179)∧w'.cell? ⟨gb182,2,none⟩=some (.int .i64 t180)∧w'.cell? ⟨gb182,3,none⟩=some (.int .i64 t181)) (ds:=[]) #[false,false,false,false,false,false,false,false,false] (by kernel_rfl) rfl rfl ⟨(blk_cell BK182.out 0).trans rfl,(blk_cell BK182.out 1).trans rfl,(blk_cell BK182.out 2).trans rfl,(blk_cell BK182.out 3).trans rfl⟩ (fun hHeld=>?_);refine with_tabW thresherlaw04_SchemaRows.tab8 thresherlaw04_SchemaRows.bits8 (fun HT_ HW_=>?_)
              generalize w41.drew=w42 at HO178 HO185 HO191 BK174 BK182 HB hHeld ⊢
              refine pure_ (i:=2) (N:=some 39) (v:=?_) (a':=?_) #[false,false,true,false,false,false,false,false,false] rfl rfl (any_of HT_.out (by kernel_rfl)) (fun _ _ _ h=>h) (Or.inl ⟨by rfl,?_⟩) ?_ ?_
              rotate_left;(intro w';go_simp;with_reducible rfl);rotate_left;(simp only [Act.put,List.setIfInBounds_toArray,List.set_cons_zero,List.set_cons_succ,i64_w,i32_w];rfl)
              refine pure_ (i:=4) (N:=some 41) (v:=?_) (a':=?_) #[false,false,true,false,true,false,false,false,false] rfl rfl (any_of HT_.out (by kernel_rfl)) (fun _ _ _ h=>h) (Or.inl ⟨by rfl,?_⟩) ?_ ?_
              rotate_left;(intro w';go_simp;with_reducible rfl);rotate_left;(simp only [Act.put,List.setIfInBounds_toArray,List.set_cons_zero,List.set_cons_succ,i64_w,i32_w];rfl)
              refine take_ (i:=0) (N:=some 37) (v:=?_) (a':=?_) #[true,false,true,false,true,false,false,false,false] rfl rfl (take_ofW HT_.out HW_.out (by kernel_rfl)) (fun _ _ _ h=>h) (Or.inl ⟨by rfl,?_⟩) hHeld ?_ ?_
              rotate_left;(rintro w' ⟨s0,s1,s2,s3⟩;go_simp;with_reducible rfl);rotate_left;(simp only [Act.put,List.setIfInBounds_toArray,List.set_cons_zero,List.set_cons_succ,i64_w,i32_w];rfl)
              refine join_ (σ:=Value × Value × Value) 3 #[true,true,true,true,true,true,false,false,false] (fun s_=>[(38,s_.1),(40,s_.2.1),(42,s_.2.2)]) (fun s_ w'=>(w'.cell? ⟨gb182,0,none⟩=some (.slice Ao30 t176.length co30)∧w'.cell? ⟨gb182,1,none⟩=some (.int .i64 t179)∧w'.cell? ⟨gb182,2,none⟩=some (.int .i64 t180)∧w'.cell? ⟨gb182,3,none⟩=some (.int .i64 t181))∧(Kd.R (Kd.int .i64) 3 w' w.heap.size (fun _=>True) (.slice Ao30 t176.length co30) t176)∧(Kd.R k34 34 w' w.heap.size (fun k_=>some k_≠(.slice (some ⟨go12,0,none⟩) y189.length co12 : Value).ownBlock∧some k_≠(s_.2.1 : Value).ownBlock∧some k_≠(s_.2.2 : Value).ownBlock) (.slice Ao34 t183.length co34) t183)∧(Kd.R k34 34 w' w.heap.size (fun k_=>some k_≠(.slice Ao34 t183.length co34 : Value).ownBlock∧some k_≠(s_.2.1 : Value).ownBlock∧some k_≠(s_.2.2 : Value).ownBlock) (.slice (some ⟨go12,0,none⟩) y189.length co12) y192)∧(Kd.R k34 34 w' w.heap.size (fun k_=>some k_≠(.slice Ao34 t183.length co34 : Value).ownBlock∧some k_≠(.slice (some ⟨go12,0,none⟩) y189.length co12 : Value).ownBlock∧some k_≠(s_.2.2 : Value).ownBlock) s_.2.1 y197)∧(Kd.R k34 34 w' w.heap.size (fun k_=>some k_≠(.slice Ao34 t183.length co34 : Value).ownBlock∧some k_≠(.slice (some ⟨go12,0,none⟩) y189.length co12 : Value).ownBlock∧some k_≠(s_.2.1 : Value).ownBlock) s_.2.2 y200)∧(w'.heap[gb174]?=some (.cells #[.int .u8 a0_0,.int .u8 a0_1,.int .u8 a0_2,.int .u8 a0_3,.int .u8 a0_4,.int .u8 a0_5,.int .u8 a0_6,.int .u8 a0_7,.int .u8 a0_8,.int .u8 a0_9,.int .u8 a0_10,.int .u8 a0_11] 24 (0,0)))∧(w'.heap[gb182]?=some (.cells #[.slice Ao30 t176.length co30,.int .i64 t179,.int .i64 t180,.int .i64 t181] 30 (0,0)))∧(Below w.heap.size w w')) ?_ ?_
              rotate_left
              ·intro hCont
               refine two_ (i:=1) (j:=5) (Ni:=some 38) (Nj:=some 42) #[true,true,true,false,true,false,false,false,false] #[true,false,true,false,true,true,false,false,false] rfl rfl rfl rfl (two_of HT_.out (by kernel_rfl)) (by decide) (by decide) (fun K hK=>?_) (fun K hK=>?_)
               ·skip
                refine Kd.R_lit_step k34 _ 34 ?hg (N:=38) ?hd (xs:=([] : List (S34))) (inner:=[]) (ok:=fun _=>True) (okp:=fun _=>True) ?hr ?hp (fun _ hk=>hk) trivial (Below.refl _ _) (Nat.le_refl _) (by simp) ?_;(case hd=>rfl);(case hg=>rfl);(case hr=>first|(go_simp;done)|(go_simp;rfl));(case hp=>exact (Reps.none _ _))
                intro v195 w43 ho44 hb hg_ hnew_
                clear hg_ hnew_
                (first|rw [← Ny194.out] at ho44|(simp only [Int.reduceToNat] at ho44;rw [← Ny194.out] at ho44))
                have n0_:=Aside0.mk (Kd.R_below (R_up HO178.out) hb)
                have n1_:=Aside0.mk (Kd.R_elder' (R_up HO185.out) (Kd.R_base ho44) hb)
                have n2_:=Aside0.mk (Kd.R_elder' (R_up HO191.out) (Kd.R_base ho44) hb)
                have n3_:=Aside0.mk (Kd.R_lower (Kd.R_new' (Kd.R_new' ho44 (Kd.R_lt (R_up HO185.out))) (Kd.R_lt (R_up HO191.out))) (below_size (below_go HB.out)))
                have n4_:=Aside0.mk (blk_below (blk_up BK174.out) hb)
                have n5_:=Aside0.mk (blk_below (blk_up BK182.out) hb)
                have n6_:=Aside0.mk (below_step (below_go HB.out) hb)
                clear HO178
                clear HO185
                clear HO191
                clear BK174
                clear BK182
                clear HB
                have HO178:=n0_
                have HO185:=n1_
                have HO191:=n2_
                have HO196:=n3_
                have BK174:=n4_
                have BK182:=n5_
                have HB:=n6_
                clear n0_ n1_ n2_ n3_ n4_ n5_ n6_
                clear hb ho44
                refine hK.out _ _ ⟨(blk_cell BK182.out 0).trans rfl,(blk_cell BK182.out 1).trans rfl,(blk_cell BK182.out 2).trans rfl,(blk_cell BK182.out 3).trans rfl⟩ (fun hHeld=>?_)
                clear hK K
                refine norm_ (a':=?_) ?_ ?_
                rotate_left
                ·show Act.put _ (some 38) _=_
                 simp only [Act.put,List.setIfInBounds_toArray,List.set_cons_zero,List.set_cons_succ,i64_w,i32_w]
                 rfl
                refine two_ (i:=3) (j:=5) (Ni:=some 40) (Nj:=some 42) #[true,true,true,true,true,false,false,false,false] #[true,true,true,false,true,true,false,false,false] rfl rfl rfl rfl (two_of HT_.out (by kernel_rfl)) (by decide) (by decide) (fun K hK=>?_) (fun K hK=>?_)
                ·skip
                 refine Kd.R_append_rows_step k34 (w0:=w) w.heap.size (by rfl) (.tmp 38) (.tmp 39) 26 34 (.agg #[(.int .i64 0),(.string ⟨#[]⟩)]) 24 rfl Try.underlying26 info34 rfl (by decide) (by omega) v195 y194 t183 _ _ _ (fun k_=>some k_≠(.slice Ao34 t183.length co34 : Value).ownBlock∧some k_≠(.slice (some ⟨go12,0,none⟩) y189.length co12 : Value).ownBlock) (fun _=>False) rfl rfl ?aO ?aR (fun _ _ h=>h) (fun _ h=>h.elim) ?aF ?aB ?aS ?aL ?_
                 (case aR=>repeat (first|exact (Kd.R_reads' HO185.out).2.2|(with_reducible refine Kd.C_alloc ?_ _)|(with_reducible refine Kd.C_drewN ?_ _)|(with_reducible refine Kd.C_drew ?_)))
                 (case aB=>exact (below_go HB.out))
                 (case aF=>exact (fun k_ hk=>⟨Kd.fresh' (Kd.R_lt (R_up HO185.out)) k_ hk,Kd.fresh' (Kd.R_lt (R_up HO191.out)) k_ hk⟩))
                 (case aO=>exact (by (with_reducible repeat (first|apply Kd.R_alloc|apply Kd.R_drewN|apply Kd.R_drew));exact Kd.R_mono HO196.out (fun _ hk=>⟨hk.1.2,hk.2⟩)))
                 (case aS=>exact (below_size (below_go HB.out)))
                 (case aL=>have:=LMc14.out;omega)
                 intro v198 w45 ho hb hg hat
                 rw [← Ny197.out] at ho
                 have n0_:=Aside0.mk (blk_grown (blk_up BK174.out) hg (Kd.R_ne HO196.out BK174.out (by decide)))
                 have n1_:=Aside0.mk (Kd.R_over' (R_up HO178.out) (Kd.R_typed (R_up HO196.out)) (by decide) hg)
                 have n2_:=Aside0.mk (blk_grown (blk_up BK182.out) hg (Kd.R_ne HO196.out BK182.out (by decide)))
                 have n3_:=Aside0.mk (Kd.R_after (ok:=(fun k_=>some k_≠(.slice (some ⟨go12,0,none⟩) y189.length co12 : Value).ownBlock)) (by (with_reducible repeat (first|apply Kd.R_alloc|apply Kd.R_drewN|apply Kd.R_drew));exact Kd.R_mono HO185.out (fun _ hk=>⟨hk.1.2,hk.2⟩)) hg hat)
                 have n4_:=Aside0.mk (Kd.R_after (ok:=(fun k_=>some k_≠(.slice Ao34 t183.length co34 : Value).ownBlock)) (R_up HO191.out) hg hat)
                 have n5_:=Aside0.mk (hb)
                 have n6_:=Aside0.mk (ho)
                 clear BK174
                 clear HO178
                 clear BK182
                 clear HO185
                 clear HO191
                 clear HB
                 clear HO196
                 have BK174:=n0_
                 have HO178:=n1_
                 have BK182:=n2_
                 have HO185:=n3_
                 have HO191:=n4_
                 have HB:=n5_
                 have HO199:=n6_
                 clear n0_ n1_ n2_ n3_ n4_ n5_ n6_
                 clear ho hb hg hat
                 refine hK.out _ _ ⟨(blk_cell BK182.out 0).trans rfl,(blk_cell BK182.out 1).trans rfl,(blk_cell BK182.out 2).trans rfl,(blk_cell BK182.out 3).trans rfl⟩ (fun hHeld=>?_)
                 clear hK K
                 refine norm_ (a':=?_) ?_ ?_
                 rotate_left
                 ·show Act.put _ (some 40) _=_
                  simp only [Act.put,List.setIfInBounds_toArray,List.set_cons_zero,List.set_cons_succ,i64_w,i32_w]
                  rfl
                 refine one_ (i:=5) (N:=some 42) #[true,true,true,true,true,true,false,false,false] rfl rfl (one_of HT_.out (by kernel_rfl)) (by decide) (fun K hK=>?_)
                 refine Kd.R_lit_step k34 _ 34 ?hg (N:=42) ?hd (xs:=([(⟨0,(⟨#[]⟩ : ByteArray)⟩ : S34)] : List (S34))) (inner:=[.int .i64 0,.string (⟨#[]⟩ : ByteArray)]) (ok:=fun _=>True) (okp:=fun _=>True) ?hr ?hp (fun _ hk=>hk) trivial (Below.refl _ _) (Nat.le_refl _) (by simp) ?_;(case hd=>rfl);(case hg=>rfl);(case hr=>first|(go_simp;done)|(go_simp;rfl));(case hp=>exact (Reps.c2 (show Kd.M k34 _ _ _ (⟨0,(⟨#[]⟩ : ByteArray)⟩ : S34) [.int .i64 0,.string (⟨#[]⟩ : ByteArray)] from (k34_mkM _ _ _ (⟨0,(⟨#[]⟩ : ByteArray)⟩ : S34) )) (Reps.none _ _)))
                 intro v201 w46 ho47 hb hg_ hnew_
                 clear hg_ hnew_
                 (first|rw [← Ny200.out] at ho47|(simp only [Int.reduceToNat] at ho47;rw [← Ny200.out] at ho47))
                 have n0_:=Aside0.mk (Kd.R_below (R_up HO178.out) hb)
                 have n1_:=Aside0.mk (Kd.R_elder' (R_up HO185.out) (Kd.R_base ho47) hb)
                 have n2_:=Aside0.mk (Kd.R_elder' (R_up HO191.out) (Kd.R_base ho47) hb)
                 have n3_:=Aside0.mk (Kd.R_elder' (R_up HO199.out) (Kd.R_base ho47) hb)
                 have n4_:=Aside0.mk (Kd.R_lower (Kd.R_new' (Kd.R_new' (Kd.R_new' ho47 (Kd.R_lt (R_up HO185.out))) (Kd.R_lt (R_up HO191.out))) (Kd.R_lt (R_up HO199.out))) (below_size (below_go HB.out)))
                 have n5_:=Aside0.mk (blk_below (blk_up BK174.out) hb)
                 have n6_:=Aside0.mk (blk_below (blk_up BK182.out) hb)
                 have n7_:=Aside0.mk (below_step (below_go HB.out) hb)
                 clear HO178
                 clear HO185
                 clear HO191
                 clear HO199
                 clear BK174
                 clear BK182
                 clear HB
                 have HO178:=n0_
                 have HO185:=n1_
                 have HO191:=n2_
                 have HO199:=n3_
                 have HO202:=n4_
                 have BK174:=n5_
                 have BK182:=n6_
                 have HB:=n7_
                 clear n0_ n1_ n2_ n3_ n4_ n5_ n6_ n7_
                 clear hb ho47
                 refine hK.out _ _ ⟨(blk_cell BK182.out 0).trans rfl,(blk_cell BK182.out 1).trans rfl,(blk_cell BK182.out 2).trans rfl,(blk_cell BK182.out 3).trans rfl⟩ (fun hHeld=>?_)
                 clear hK K
                 refine norm_ (a':=?_) ?_ ?_
                 rotate_left
                 ·show Act.put _ (some 42) _=_
                  simp only [Act.put,List.setIfInBounds_toArray,List.set_cons_zero,List.set_cons_succ,i64_w,i32_w]
                  rfl
                 exact norm_ (by simp only [putAll,Act.put,List.setIfInBounds_toArray,List.set_cons_zero,List.set_cons_succ]) (hCont (v195,v198,v201) _ ⟨hHeld,(R_up HO178.out),(by (with_reducible repeat (first|apply Kd.R_alloc|apply Kd.R_drewN|apply Kd.R_drew));exact Kd.R_mono HO185.out (fun _ hk=>⟨hk.1.1,⟨hk.1.2,hk.2⟩⟩)),(by (with_reducible repeat (first|apply Kd.R_alloc|apply Kd.R_drewN|apply Kd.R_drew));exact Kd.R_mono HO191.out (fun _ hk=>⟨hk.1.1,⟨hk.1.2,hk.2⟩⟩)),(by (with_reducible repeat (first|apply Kd.R_alloc|apply Kd.R_drewN|apply Kd.R_drew));exact Kd.R_mono HO199.out (fun _ hk=>⟨hk.1.1,⟨hk.1.2,hk.2⟩⟩)),(by (with_reducible repeat (first|apply Kd.R_alloc|apply Kd.R_drewN|apply Kd.R_drew));exact Kd.R_mono HO202.out (fun _ hk=>⟨hk.1.1.2,⟨hk.1.2,hk.2⟩⟩)),(blk_up BK174.out),(blk_up BK182.out),(below_go HB.out)⟩)
                ·skip
                 refine Kd.R_lit_step k34 _ 34 ?hg (N:=42) ?hd (xs:=([(⟨0,(⟨#[]⟩ : ByteArray)⟩ : S34)] : List (S34))) (inner:=[.int .i64 0,.string (⟨#[]⟩ : ByteArray)]) (ok:=fun _=>True) (okp:=fun _=>True) ?hr ?hp (fun _ hk=>hk) trivial (Below.refl _ _) (Nat.le_refl _) (by simp) ?_;(case hd=>rfl);(case hg=>rfl);(case hr=>first|(go_simp;done)|(go_simp;rfl));(case hp=>exact (Reps.c2 (show Kd.M k34 _ _ _ (⟨0,(⟨#[]⟩ : ByteArray)⟩ : S34) [.int .i64 0,.string (⟨#[]⟩ : ByteArray)] from (k34_mkM _ _ _ (⟨0,(⟨#[]⟩ : ByteArray)⟩ : S34) )) (Reps.none _ _)))
                 intro v201 w45 ho46 hb hg_ hnew_
                 clear hg_ hnew_
                 (first|rw [← Ny200.out] at ho46|(simp only [Int.reduceToNat] at ho46;rw [← Ny200.out] at ho46))
                 have n0_:=Aside0.mk (Kd.R_below (R_up HO178.out) hb)
                 have n1_:=Aside0.mk (Kd.R_elder' (R_up HO185.out) (Kd.R_base ho46) hb)
                 have n2_:=Aside0.mk (Kd.R_elder' (R_up HO191.out) (Kd.R_base ho46) hb)
                 have n3_:=Aside0.mk (Kd.R_elder' (R_up HO196.out) (Kd.R_base ho46) hb)
                 have n4_:=Aside0.mk (Kd.R_lower (Kd.R_new' (Kd.R_new' (Kd.R_new' ho46 (Kd.R_lt (R_up HO185.out))) (Kd.R_lt (R_up HO191.out))) (Kd.R_lt (R_up HO196.out))) (below_size (below_go HB.out)))
                 have n5_:=Aside0.mk (blk_below (blk_up BK174.out) hb)
                 have n6_:=Aside0.mk (blk_below (blk_up BK182.out) hb)
                 have n7_:=Aside0.mk (below_step (below_go HB.out) hb)
                 clear HO178
                 clear HO185
                 clear HO191
                 clear HO196
                 clear BK174
                 clear BK182
                 clear HB
                 have HO178:=n0_
                 have HO185:=n1_
                 have HO191:=n2_
                 have HO196:=n3_
                 have HO202:=n4_
                 have BK174:=n5_
                 have BK182:=n6_
                 have HB:=n7_
                 clear n0_ n1_ n2_ n3_ n4_ n5_ n6_ n7_
                 clear hb ho46
                 refine hK.out _ _ ⟨(blk_cell BK182.out 0).trans rfl,(blk_cell BK182.out 1).trans rfl,(blk_cell BK182.out 2).trans rfl,(blk_cell BK182.out 3).trans rfl⟩ (fun hHeld=>?_)
                 clear hK K
                 refine norm_ (a':=?_) ?_ ?_
                 rotate_left
                 ·show Act.put _ (some 42) _=_
                  simp only [Act.put,List.setIfInBounds_toArray,List.set_cons_zero,List.set_cons_succ,i64_w,i32_w]
                  rfl
                 refine one_ (i:=3) (N:=some 40) #[true,true,true,true,true,true,false,false,false] rfl rfl (one_of HT_.out (by kernel_rfl)) (by decide) (fun K hK=>?_)
                 refine Kd.R_append_rows_step k34 (w0:=w) w.heap.size (by rfl) (.tmp 38) (.tmp 39) 26 34 (.agg #[(.int .i64 0),(.string ⟨#[]⟩)]) 24 rfl Try.underlying26 info34 rfl (by decide) (by omega) v195 y194 t183 _ _ _ (fun k_=>some k_≠(.slice Ao34 t183.length co34 : Value).ownBlock∧some k_≠(.slice (some ⟨go12,0,none⟩) y189.length co12 : Value).ownBlock∧some k_≠(v201 : Value).ownBlock) (fun _=>False) rfl rfl ?aO ?aR (fun _ _ h=>h) (fun _ h=>h.elim) ?aF ?aB ?aS ?aL ?_
                 (case aR=>repeat (first|exact (Kd.R_reads' HO185.out).2.2|(with_reducible refine Kd.C_alloc ?_ _)|(with_reducible refine Kd.C_drewN ?_ _)|(with_reducible refine Kd.C_drew ?_)))
                 (case aB=>exact (below_go HB.out))
                 (case aF=>exact (fun k_ hk=>⟨Kd.fresh' (Kd.R_lt (R_up HO185.out)) k_ hk,Kd.fresh' (Kd.R_lt (R_up HO191.out)) k_ hk,Kd.fresh' (Kd.R_lt (R_up HO202.out)) k_ hk⟩))
                 (case aO=>exact (by (with_reducible repeat (first|apply Kd.R_alloc|apply Kd.R_drewN|apply Kd.R_drew));exact Kd.R_mono HO196.out (fun _ hk=>⟨hk.1.1.2,⟨hk.1.2,hk.2⟩⟩)))
                 (case aS=>exact (below_size (below_go HB.out)))
                 (case aL=>have:=LMc14.out;omega)
                 intro v198 w47 ho hb hg hat
                 rw [← Ny197.out] at ho
                 have n0_:=Aside0.mk (blk_grown (blk_up BK174.out) hg (Kd.R_ne HO196.out BK174.out (by decide)))
                 have n1_:=Aside0.mk (Kd.R_over' (R_up HO178.out) (Kd.R_typed (R_up HO196.out)) (by decide) hg)
                 have n2_:=Aside0.mk (blk_grown (blk_up BK182.out) hg (Kd.R_ne HO196.out BK182.out (by decide)))
                 have n3_:=Aside0.mk (Kd.R_after (ok:=(fun k_=>some k_≠(.slice (some ⟨go12,0,none⟩) y189.length co12 : Value).ownBlock∧some k_≠(v201 : Value).ownBlock)) (by (with_reducible repeat (first|apply Kd.R_alloc|apply Kd.R_drewN|apply Kd.R_drew));exact Kd.R_mono HO185.out (fun _ hk=>⟨⟨hk.1.1.2,hk.2⟩,hk.1.2⟩)) hg hat)
                 have n4_:=Aside0.mk (Kd.R_after (ok:=(fun k_=>some k_≠(.slice Ao34 t183.length co34 : Value).ownBlock∧some k_≠(v201 : Value).ownBlock)) (by (with_reducible repeat (first|apply Kd.R_alloc|apply Kd.R_drewN|apply Kd.R_drew));exact Kd.R_mono HO191.out (fun _ hk=>⟨⟨hk.1.1,hk.2⟩,hk.1.2⟩)) hg hat)
                 have n5_:=Aside0.mk (Kd.R_after (ok:=(fun k_=>some k_≠(.slice Ao34 t183.length co34 : Value).ownBlock∧some k_≠(.slice (some ⟨go12,0,none⟩) y189.length co12 : Value).ownBlock)) (by (with_reducible repeat (first|apply Kd.R_alloc|apply Kd.R_drewN|apply Kd.R_drew));exact Kd.R_mono HO202.out (fun _ hk=>⟨⟨hk.1.1.2,hk.1.2⟩,hk.2⟩)) hg hat)
                 have n6_:=Aside0.mk (hb)
                 have n7_:=Aside0.mk (ho)
                 clear BK174
                 clear HO178
                 clear BK182
                 clear HO185
                 clear HO191
                 clear HO202
                 clear HB
                 clear HO196
                 have BK174:=n0_
                 have HO178:=n1_
                 have BK182:=n2_
                 have HO185:=n3_
                 have HO191:=n4_
                 have HO202:=n5_
                 have HB:=n6_
                 have HO199:=n7_
                 clear n0_ n1_ n2_ n3_ n4_ n5_ n6_ n7_
                 clear ho hb hg hat
                 refine hK.out _ _ ⟨(blk_cell BK182.out 0).trans rfl,(blk_cell BK182.out 1).trans rfl,(blk_cell BK182.out 2).trans rfl,(blk_cell BK182.out 3).trans rfl⟩ (fun hHeld=>?_)
                 clear hK K
                 refine norm_ (a':=?_) ?_ ?_
                 rotate_left
                 ·show Act.put _ (some 40) _=_
                  simp only [Act.put,List.setIfInBounds_toArray,List.set_cons_zero,List.set_cons_succ,i64_w,i32_w]
                  rfl
                 exact norm_ (by simp only [putAll,Act.put,List.setIfInBounds_toArray,List.set_cons_zero,List.set_cons_succ]) (hCont (v195,v198,v201) _ ⟨hHeld,(R_up HO178.out),(by (with_reducible repeat (first|apply Kd.R_alloc|apply Kd.R_drewN|apply Kd.R_drew));exact Kd.R_mono HO185.out (fun _ hk=>⟨hk.1.1,⟨hk.2,hk.1.2⟩⟩)),(by (with_reducible repeat (first|apply Kd.R_alloc|apply Kd.R_drewN|apply Kd.R_drew));exact Kd.R_mono HO191.out (fun _ hk=>⟨hk.1.1,⟨hk.2,hk.1.2⟩⟩)),(R_up HO199.out),(by (with_reducible repeat (first|apply Kd.R_alloc|apply Kd.R_drewN|apply Kd.R_drew));exact Kd.R_mono HO202.out (fun _ hk=>⟨hk.1.1,⟨hk.1.2,hk.2⟩⟩)),(blk_up BK174.out),(blk_up BK182.out),(below_go HB.out)⟩)
               ·skip
                refine Kd.R_lit_step k34 _ 34 ?hg (N:=42) ?hd (xs:=([(⟨0,(⟨#[]⟩ : ByteArray)⟩ : S34)] : List (S34))) (inner:=[.int .i64 0,.string (⟨#[]⟩ : ByteArray)]) (ok:=fun _=>True) (okp:=fun _=>True) ?hr ?hp (fun _ hk=>hk) trivial (Below.refl _ _) (Nat.le_refl _) (by simp) ?_;(case hd=>rfl);(case hg=>rfl);(case hr=>first|(go_simp;done)|(go_simp;rfl));(case hp=>exact (Reps.c2 (show Kd.M k34 _ _ _ (⟨0,(⟨#[]⟩ : ByteArray)⟩ : S34) [.int .i64 0,.string (⟨#[]⟩ : ByteArray)] from (k34_mkM _ _ _ (⟨0,(⟨#[]⟩ : ByteArray)⟩ : S34) )) (Reps.none _ _)))
                intro v201 w43 ho44 hb hg_ hnew_
                clear hg_ hnew_
                (first|rw [← Ny200.out] at ho44|(simp only [Int.reduceToNat] at ho44;rw [← Ny200.out] at ho44))
                have n0_:=Aside0.mk (Kd.R_below (R_up HO178.out) hb)
                have n1_:=Aside0.mk (Kd.R_elder' (R_up HO185.out) (Kd.R_base ho44) hb)
                have n2_:=Aside0.mk (Kd.R_elder' (R_up HO191.out) (Kd.R_base ho44) hb)
                have n3_:=Aside0.mk (Kd.R_lower (Kd.R_new' (Kd.R_new' ho44 (Kd.R_lt (R_up HO185.out))) (Kd.R_lt (R_up HO191.out))) (below_size (below_go HB.out)))
                have n4_:=Aside0.mk (blk_below (blk_up BK174.out) hb)
                have n5_:=Aside0.mk (blk_below (blk_up BK182.out) hb)
                have n6_:=Aside0.mk (below_step (below_go HB.out) hb)
                clear HO178
                clear HO185
                clear HO191
                clear BK174
                clear BK182
                clear HB
                have HO178:=n0_
                have HO185:=n1_
                have HO191:=n2_
                have HO202:=n3_
                have BK174:=n4_
                have BK182:=n5_
                have HB:=n6_
                clear n0_ n1_ n2_ n3_ n4_ n5_ n6_
                clear hb ho44
                refine hK.out _ _ ⟨(blk_cell BK182.out 0).trans rfl,(blk_cell BK182.out 1).trans rfl,(blk_cell BK182.out 2).trans rfl,(blk_cell BK182.out 3).trans rfl⟩ (fun hHeld=>?_)
                clear hK K
                refine norm_ (a':=?_) ?_ ?_
                rotate_left
                ·show Act.put _ (some 42) _=_
                 simp only [Act.put,List.setIfInBounds_toArray,List.set_cons_zero,List.set_cons_succ,i64_w,i32_w]
                 rfl
                refine one_ (i:=1) (N:=some 38) #[true,true,true,false,true,true,false,false,false] rfl rfl (one_of HT_.out (by kernel_rfl)) (by decide) (fun K hK=>?_)
                refine Kd.R_lit_step k34 _ 34 ?hg (N:=38) ?hd (xs:=([] : List (S34))) (inner:=[]) (ok:=fun _=>True) (okp:=fun _=>True) ?hr ?hp (fun _ hk=>hk) trivial (Below.refl _ _) (Nat.le_refl _) (by simp) ?_;(case hd=>rfl);(case hg=>rfl);(case hr=>first|(go_simp;done)|(go_simp;rfl));(case hp=>exact (Reps.none _ _))
                intro v195 w45 ho46 hb hg_ hnew_
                clear hg_ hnew_
                (first|rw [← Ny194.out] at ho46|(simp only [Int.reduceToNat] at ho46;rw [← Ny194.out] at ho46))
                have n0_:=Aside0.mk (Kd.R_below (R_up HO178.out) hb)
                have n1_:=Aside0.mk (Kd.R_elder' (R_up HO185.out) (Kd.R_base ho46) hb)
                have n2_:=Aside0.mk (Kd.R_elder' (R_up HO191.out) (Kd.R_base ho46) hb)
                have n3_:=Aside0.mk (Kd.R_elder' (R_up HO202.out) (Kd.R_base ho46) hb)
                have n4_:=Aside0.mk (Kd.R_lower (Kd.R_new' (Kd.R_new' (Kd.R_new' ho46 (Kd.R_lt (R_up HO185.out))) (Kd.R_lt (R_up HO191.out))) (Kd.R_lt (R_up HO202.out))) (below_size (below_go HB.out)))
                have n5_:=Aside0.mk (blk_below (blk_up BK174.out) hb)
                have n6_:=Aside0.mk (blk_below (blk_up BK182.out) hb)
                have n7_:=Aside0.mk (below_step (below_go HB.out) hb)
                clear HO178
                clear HO185
                clear HO191
                clear HO202
                clear BK174
                clear BK182
                clear HB
                have HO178:=n0_
                have HO185:=n1_
                have HO191:=n2_
                have HO202:=n3_
                have HO196:=n4_
                have BK174:=n5_
                have BK182:=n6_
                have HB:=n7_
                clear n0_ n1_ n2_ n3_ n4_ n5_ n6_ n7_
                clear hb ho46
                refine hK.out _ _ ⟨(blk_cell BK182.out 0).trans rfl,(blk_cell BK182.out 1).trans rfl,(blk_cell BK182.out 2).trans rfl,(blk_cell BK182.out 3).trans rfl⟩ (fun hHeld=>?_)
                clear hK K
                refine norm_ (a':=?_) ?_ ?_
                rotate_left
                ·show Act.put _ (some 38) _=_
                 simp only [Act.put,List.setIfInBounds_toArray,List.set_cons_zero,List.set_cons_succ,i64_w,i32_w]
                 rfl
                refine one_ (i:=3) (N:=some 40) #[true,true,true,true,true,true,false,false,false] rfl rfl (one_of HT_.out (by kernel_rfl)) (by decide) (fun K hK=>?_)
                refine Kd.R_append_rows_step k34 (w0:=w) w.heap.size (by rfl) (.tmp 38) (.tmp 39) 26 34 (.agg #[(.int .i64 0),(.string ⟨#[]⟩)]) 24 rfl Try.underlying26 info34 rfl (by decide) (by omega) v195 y194 t183 _ _ _ (fun k_=>some k_≠(.slice Ao34 t183.length co34 : Value).ownBlock∧some k_≠(.slice (some ⟨go12,0,none⟩) y189.length co12 : Value).ownBlock∧some k_≠(v201 : Value).ownBlock) (fun _=>False) rfl rfl ?aO ?aR (fun _ _ h=>h) (fun _ h=>h.elim) ?aF ?aB ?aS ?aL ?_
                (case aR=>repeat (first|exact (Kd.R_reads' HO185.out).2.2|(with_reducible refine Kd.C_alloc ?_ _)|(with_reducible refine Kd.C_drewN ?_ _)|(with_reducible refine Kd.C_drew ?_)))
                (case aB=>exact (below_go HB.out))
                (case aF=>exact (fun k_ hk=>⟨Kd.fresh' (Kd.R_lt (R_up HO185.out)) k_ hk,Kd.fresh' (Kd.R_lt (R_up HO191.out)) k_ hk,Kd.fresh' (Kd.R_lt (R_up HO202.out)) k_ hk⟩))
                (case aO=>exact (by (with_reducible repeat (first|apply Kd.R_alloc|apply Kd.R_drewN|apply Kd.R_drew));exact Kd.R_mono HO196.out (fun _ hk=>⟨hk.1.1.2,⟨hk.1.2,hk.2⟩⟩)))
                (case aS=>exact (below_size (below_go HB.out)))
                (case aL=>have:=LMc14.out;omega)
                intro v198 w47 ho hb hg hat
                rw [← Ny197.out] at ho
                have n0_:=Aside0.mk (blk_grown (blk_up BK174.out) hg (Kd.R_ne HO196.out BK174.out (by decide)))
                have n1_:=Aside0.mk (Kd.R_over' (R_up HO178.out) (Kd.R_typed (R_up HO196.out)) (by decide) hg)
                have n2_:=Aside0.mk (blk_grown (blk_up BK182.out) hg (Kd.R_ne HO196.out BK182.out (by decide)))
                have n3_:=Aside0.mk (Kd.R_after (ok:=(fun k_=>some k_≠(.slice (some ⟨go12,0,none⟩) y189.length co12 : Value).ownBlock∧some k_≠(v201 : Value).ownBlock)) (by (with_reducible repeat (first|apply Kd.R_alloc|apply Kd.R_drewN|apply Kd.R_drew));exact Kd.R_mono HO185.out (fun _ hk=>⟨⟨hk.1.1.2,hk.1.2⟩,hk.2⟩)) hg hat)
                have n4_:=Aside0.mk (Kd.R_after (ok:=(fun k_=>some k_≠(.slice Ao34 t183.length co34 : Value).ownBlock∧some k_≠(v201 : Value).ownBlock)) (R_up HO191.out) hg hat)
                have n5_:=Aside0.mk (Kd.R_after (ok:=(fun k_=>some k_≠(.slice Ao34 t183.length co34 : Value).ownBlock∧some k_≠(.slice (some ⟨go12,0,none⟩) y189.length co12 : Value).ownBlock)) (by (with_reducible repeat (first|apply Kd.R_alloc|apply Kd.R_drewN|apply Kd.R_drew));exact Kd.R_mono HO202.out (fun _ hk=>⟨⟨hk.1.1.2,hk.1.2⟩,hk.2⟩)) hg hat)
                have n6_:=Aside0.mk (hb)
                have n7_:=Aside0.mk (ho)
                clear BK174
                clear HO178
                clear BK182
                clear HO185
                clear HO191
                clear HO202
                clear HB
                clear HO196
                have BK174:=n0_
                have HO178:=n1_
                have BK182:=n2_
                have HO185:=n3_
                have HO191:=n4_
                have HO202:=n5_
                have HB:=n6_
                have HO199:=n7_
                clear n0_ n1_ n2_ n3_ n4_ n5_ n6_ n7_
                clear ho hb hg hat
                refine hK.out _ _ ⟨(blk_cell BK182.out 0).trans rfl,(blk_cell BK182.out 1).trans rfl,(blk_cell BK182.out 2).trans rfl,(blk_cell BK182.out 3).trans rfl⟩ (fun hHeld=>?_)
                clear hK K
                refine norm_ (a':=?_) ?_ ?_
                rotate_left
                ·show Act.put _ (some 40) _=_
                 simp only [Act.put,List.setIfInBounds_toArray,List.set_cons_zero,List.set_cons_succ,i64_w,i32_w]
                 rfl
                exact norm_ (by simp only [putAll,Act.put,List.setIfInBounds_toArray,List.set_cons_zero,List.set_cons_succ]) (hCont (v195,v198,v201) _ ⟨hHeld,(R_up HO178.out),(by (with_reducible repeat (first|apply Kd.R_alloc|apply Kd.R_drewN|apply Kd.R_drew));exact Kd.R_mono HO185.out (fun _ hk=>⟨hk.1.1,⟨hk.2,hk.1.2⟩⟩)),(by (with_reducible repeat (first|apply Kd.R_alloc|apply Kd.R_drewN|apply Kd.R_drew));exact Kd.R_mono HO191.out (fun _ hk=>⟨hk.1.1,⟨hk.2,hk.1.2⟩⟩)),(R_up HO199.out),(by (with_reducible repeat (first|apply Kd.R_alloc|apply Kd.R_drewN|apply Kd.R_drew));exact Kd.R_mono HO202.out (fun _ hk=>⟨hk.1.1,⟨hk.1.2,hk.2⟩⟩)),(blk_up BK174.out),(blk_up BK182.out),(below_go HB.out)⟩)
              rintro ⟨v195,v198,v201⟩ w48 ⟨hS_,h0_,h1_,h2_,h3_,h4_,h5_,h6_,h7_⟩
              have n0_ : Aside0 (Kd.R (Kd.int .i64) 3 w48 w.heap.size (fun _=>True) (.slice Ao30 t176.length co30) t176):=⟨h0_⟩
              have n1_ : Aside0 (Kd.R k34 34 w48 w.heap.size (fun k_=>some k_≠(.slice (some ⟨go12,0,none⟩) y189.length co12 : Value).ownBlock∧some k_≠(v198 : Value).ownBlock∧some k_≠(v201 : Value).ownBlock) (.slice Ao34 t183.length co34) t183):=⟨h1_⟩
              have n2_ : Aside0 (Kd.R k34 34 w48 w.heap.size (fun k_=>some k_≠(.slice Ao34 t183.length co34 : Value).ownBlock∧some k_≠(v198 : Value).ownBlock∧some k_≠(v201 : Value).ownBlock) (.slice (some ⟨go12,0,none⟩) y189.length co12) y192):=⟨h2_⟩
              have n3_ : Aside0 (Kd.R k34 34 w48 w.heap.size (fun k_=>some k_≠(.slice Ao34 t183.length co34 : Value).ownBlock∧some k_≠(.slice (some ⟨go12,0,none⟩) y189.length co12 : Value).ownBlock∧some k_≠(v201 : Value).ownBlock) v198 y197):=⟨h3_⟩
              have n4_ : Aside0 (Kd.R k34 34 w48 w.heap.size (fun k_=>some k_≠(.slice Ao34 t183.length co34 : Value).ownBlock∧some k_≠(.slice (some ⟨go12,0,none⟩) y189.length co12 : Value).ownBlock∧some k_≠(v198 : Value).ownBlock) v201 y200):=⟨h4_⟩
              have n5_ : Aside0 (w48.heap[gb174]?=some (.cells #[.int .u8 a0_0,.int .u8 a0_1,.int .u8 a0_2,.int .u8 a0_3,.int .u8 a0_4,.int .u8 a0_5,.int .u8 a0_6,.int .u8 a0_7,.int .u8 a0_8,.int .u8 a0_9,.int .u8 a0_10,.int .u8 a0_11] 24 (0,0))):=⟨h5_⟩
              have n6_ : Aside0 (w48.heap[gb182]?=some (.cells #[.slice Ao30 t176.length co30,.int .i64 t179,.int .i64 t180,.int .i64 t181] 30 (0,0))):=⟨h6_⟩
              have n7_ : Aside0 (Below w.heap.size w w48):=⟨h7_⟩
              clear HO178
              clear HO185
              clear HO191
              clear BK174
              clear BK182
              clear HB
              clear h0_ h1_ h2_ h3_ h4_ h5_ h6_ h7_
              have HO178:=n0_
              have HO185:=n1_
              have HO191:=n2_
              have HO199:=n3_
              have HO202:=n4_
              have BK174:=n5_
              have BK182:=n6_
              have HB:=n7_
              clear n0_ n1_ n2_ n3_ n4_ n5_ n6_ n7_
              have hHeld : w48.cell? ⟨gb182,0,none⟩=some (.slice Ao30 t176.length co30)∧w48.cell? ⟨gb182,1,none⟩=some (.int .i64 t179)∧w48.cell? ⟨gb182,2,none⟩=some (.int .i64 t180)∧w48.cell? ⟨gb182,3,none⟩=some (.int .i64 t181):=hS_
              obtain ⟨Ao50,co50,eo50⟩:=Kd.R_slice HO202.out
              (first|subst eo50|(injection eo50 with f1_ f2_ f3_;have f4_:=f1_.symm;have f5_:=f3_.symm;clear f1_ f2_ f3_;subst f4_;subst f5_))
              refine norm_ (a':=?_) ?_ ?_
              rotate_left
              ·simp only [putAll,Act.put,List.setIfInBounds_toArray,List.set_cons_zero,List.set_cons_succ]
               rfl
              refine one_ (i:=6) (N:=some 43) #[true,true,true,true,true,true,true,false,false] rfl rfl (one_of HT_.out (by kernel_rfl)) (by decide) (fun K hK=>?_)
              refine Kd.R_append_rows_step k34 (w0:=w) w.heap.size (by rfl) (.tmp 40) (.tmp 42) 26 34 (.agg #[(.int .i64 0),(.string ⟨#[]⟩)]) 24 rfl Try.underlying26 info34 rfl (by decide) (by omega) v198 y197 y200 _ _ _ (fun k_=>some k_≠(.slice Ao34 t183.length co34 : Value).ownBlock∧some k_≠(.slice (some ⟨go12,0,none⟩) y189.length co12 : Value).ownBlock∧some k_≠(.slice Ao50 y200.length co50 : Value).ownBlock) (fun _=>False) rfl rfl ?aO ?aR (fun _ _ h=>h) (fun _ h=>h.elim) ?aF ?aB ?aS ?aL ?_
              (case aR=>repeat (first|exact (Kd.R_reads' HO202.out).2.2|(with_reducible refine Kd.C_alloc ?_ _)|(with_reducible refine Kd.C_drewN ?_ _)|(with_reducible refine Kd.C_drew ?_)))
              (case aB=>exact (below_go HB.out))
              (case aF=>exact (fun k_ hk=>⟨Kd.fresh' (Kd.R_lt (R_up HO185.out)) k_ hk,Kd.fresh' (Kd.R_lt (R_up HO191.out)) k_ hk,Kd.fresh' (Kd.R_lt (R_up HO202.out)) k_ hk⟩))
              (case aO=>exact (R_up HO199.out))
              (case aS=>exact (below_size (below_go HB.out)))
              (case aL=>have:=LMc15.out;omega)
              intro v204 w49 ho hb hg hat
              rw [← Ny203.out] at ho
              have n0_:=Aside0.mk (blk_grown (blk_up BK174.out) hg (Kd.R_ne HO199.out BK174.out (by decide)))
              have n1_:=Aside0.mk (Kd.R_over' (R_up HO178.out) (Kd.R_typed (R_up HO199.out)) (by decide) hg)
              have n2_:=Aside0.mk (blk_grown (blk_up BK182.out) hg (Kd.R_ne HO199.out BK182.out (by decide)))
              have n3_:=Aside0.mk (Kd.R_after (ok:=(fun k_=>some k_≠(.slice (some ⟨go12,0,none⟩) y189.length co12 : Value).ownBlock∧some k_≠(.slice Ao50 y200.length co50 : Value).ownBlock)) (by (with_reducible repeat (first|apply Kd.R_alloc|apply Kd.R_drewN|apply Kd.R_drew));exact Kd.R_mono HO185.out (fun _ hk=>⟨⟨hk.1,hk.2.2⟩,hk.2.1⟩)) hg hat)
              have n4_:=Aside0.mk (Kd.R_after (ok:=(fun k_=>some k_≠(.slice Ao34 t183.length co34 : Value).ownBlock∧some k_≠(.slice Ao50 y200.length co50 : Value).ownBlock)) (by (with_reducible repeat (first|apply Kd.R_alloc|apply Kd.R_drewN|apply Kd.R_drew));exact Kd.R_mono HO191.out (fun _ hk=>⟨⟨hk.1,hk.2.2⟩,hk.2.1⟩)) hg hat)
              have n5_:=Aside0.mk (Kd.R_after (ok:=(fun k_=>some k_≠(.slice Ao34 t183.length co34 : Value).ownBlock∧some k_≠(.slice (some ⟨go12,0,none⟩) y189.length co12 : Value).ownBlock)) (by (with_reducible repeat (first|apply Kd.R_alloc|apply Kd.R_drewN|apply Kd.R_drew));exact Kd.R_mono HO202.out (fun _ hk=>⟨⟨hk.1,hk.2.1⟩,hk.2.2⟩)) hg hat)
              have n6_:=Aside0.mk (hb)
              have n7_:=Aside0.mk (ho)
              clear BK174
              clear HO178
              clear BK182
              clear HO185
              clear HO191
              clear HO202
              clear HB
              clear HO199
              have BK174:=n0_
              have HO178:=n1_
              have BK182:=n2_
              have HO185:=n3_
              have HO191:=n4_
              have HO202:=n5_
              have HB:=n6_
              have HO205:=n7_
              clear n0_ n1_ n2_ n3_ n4_ n5_ n6_ n7_
              clear ho hb hg hat
              obtain ⟨Ao51,co51,eo51⟩:=Kd.R_slice HO205.out
              (first|subst eo51|(injection eo51 with f1_ f2_ f3_;have f4_:=f1_.symm;have f5_:=f3_.symm;clear f1_ f2_ f3_;subst f4_;subst f5_))
              refine hK.out _ _ ⟨(blk_cell BK182.out 0).trans rfl,(blk_cell BK182.out 1).trans rfl,(blk_cell BK182.out 2).trans rfl,(blk_cell BK182.out 3).trans rfl⟩ (fun hHeld=>?_)
              clear hK K
              refine norm_ (a':=?_) ?_ ?_
              rotate_left
              ·show Act.put _ (some 43) _=_
               simp only [Act.put,List.setIfInBounds_toArray,List.set_cons_zero,List.set_cons_succ,i64_w,i32_w]
               rfl
              refine one_ (i:=7) (N:=some 44) #[true,true,true,true,true,true,true,true,false] rfl rfl (one_of HT_.out (by kernel_rfl)) (by decide) (fun K hK=>?_)
              refine goes_ Try.func12 (by kernel_rfl) rfl #[.agg #[.slice Ao30 t176.length co30,.int .i64 t179,.int .i64 t180,.int .i64 t181],.slice Ao51 y203.length co51] (by rfl) rfl rfl (by (try simp only [List.map_toArray,List.map_cons,List.map_nil]);first|done|rfl|(simp only [List.length_drop,List.length_take];rfl)) ?_
              with_reducible refine (schema_Row.calls _ _ t176 t179 t180 t181 _ _ y203 true _ ?side1 ?side2 ?side3 ?side4 A16.out).mono ?_
              (case side1=>repeat (first|exact (Kd.R_reads' HO178.out).2.2|(with_reducible refine Kd.C_alloc ?_ _)|(with_reducible refine Kd.C_drewN ?_ _)|(with_reducible refine Kd.C_drew ?_)))
              (case side2=>exact (Kd.R_reads' HO178.out).2.1)
              (case side3=>repeat (first|exact (Kd.R_reads' HO205.out).2.2|(with_reducible refine Kd.C_alloc ?_ _)|(with_reducible refine Kd.C_drewN ?_ _)|(with_reducible refine Kd.C_drew ?_)))
              (case side4=>exact (Kd.R_reads' HO205.out).2.1)
              rintro e w52 ⟨rfl,hb⟩
              refine ⟨_,rfl,?_⟩
              have n0_:=Aside0.mk (Kd.R_below (R_up HO178.out) hb)
              have n1_:=Aside0.mk (Kd.R_below (R_up HO185.out) hb)
              have n2_:=Aside0.mk (Kd.R_below (R_up HO191.out) hb)
              have n3_:=Aside0.mk (Kd.R_below (R_up HO202.out) hb)
              have n4_:=Aside0.mk (Kd.R_below (R_up HO205.out) hb)
              have n5_:=Aside0.mk (blk_below (blk_up BK174.out) hb)
              have n6_:=Aside0.mk (blk_below (blk_up BK182.out) hb)
              have n7_:=Aside0.mk (below_step (below_go HB.out) hb)
              clear HO178
              clear HO185
              clear HO191
              clear HO202
              clear HO205
              clear BK174
              clear BK182
              clear HB
              have HO178:=n0_
              have HO185:=n1_
              have HO191:=n2_
              have HO202:=n3_
              have HO205:=n4_
              have BK174:=n5_
              have BK182:=n6_
              have HB:=n7_
              clear n0_ n1_ n2_ n3_ n4_ n5_ n6_ n7_
              (try clear hb)
              (try clear hb2)
              (try clear hk)
              (try clear hi)
              refine hK.out _ _ ⟨(blk_cell BK182.out 0).trans rfl,(blk_cell BK182.out 1).trans rfl,(blk_cell BK182.out 2).trans rfl,(blk_cell BK182.out 3).trans rfl⟩ (fun hHeld=>?_)
              clear hK K
              refine norm_ (a':=?_) ?_ ?_
              rotate_left
              ·show Act.put _ (some 44) _=_
               simp only [Act.put,List.setIfInBounds_toArray,List.set_cons_zero,List.set_cons_succ,i64_w,i32_w]
               rfl
              refine pure_ (i:=8) (N:=some 13) (v:=?_) (a':=?_) #[true,true,true,true,true,true,true,true,true] rfl rfl (any_of HT_.out (by kernel_rfl)) (fun _ _ _ h=>h) (Or.inl ⟨by rfl,?_⟩) ?_ ?_
              rotate_left;(intro w';go_simp;with_reducible rfl);rotate_left;(simp only [Act.put,List.setIfInBounds_toArray,List.set_cons_zero,List.set_cons_succ,i64_w,i32_w];rfl)
              refine done_ (done_of HT_.out (by kernel_rfl)) ?_
              (try clear hHeld)
              try go_wp2
              have n0_:=Aside0.mk (Kd.R_drew HO178.out)
              have n1_:=Aside0.mk (Kd.R_drew HO185.out)
              have n2_:=Aside0.mk (Kd.R_drew HO191.out)
              have n3_:=Aside0.mk (Kd.R_drew HO202.out)
              have n4_:=Aside0.mk (Kd.R_drew HO205.out)
              have n5_:=Aside0.mk (blk_drew BK174.out)
              have n6_:=Aside0.mk (blk_drew BK182.out)
              have n7_:=Aside0.mk (below_drew1 HB.out)
              clear HO178
              clear HO185
              clear HO191
              clear HO202
              clear HO205
              clear BK174
              clear BK182
              clear HB
              have HO178:=n0_
              have HO185:=n1_
              have HO191:=n2_
              have HO202:=n3_
              have HO205:=n4_
              have BK174:=n5_
              have BK182:=n6_
              have HB:=n7_
              clear n0_ n1_ n2_ n3_ n4_ n5_ n6_ n7_
              have q54 : ((ji17) : Int)≤((t183.length : Int) : Int):=of_decide_eq_true (by first|(with_reducible assumption)|assumption)
              obtain ⟨i054,hi054,_,hsz54,_⟩:=info_parts info34
              have hroom54 : t183.length≤co34:=(Kd.R_reads' HO185.out).2.1
              have hC54 : Kd.F k34 _ _ Ao34 t183.length t183:=(Kd.V_at (base:=w.heap.size) (Kd.R_V (Kd.R_types (Kd.R_types (Kd.R_apart' (HO185.out) (Kd.R_typed HO178.out) (by decide)) BK174.out (by decide)) BK182.out (by decide)))).2.2
              have hcut54:=cut_to (P:=Try.prog) 26 34 .i64 Try.underlying26 hi054 Ao34 t183.length co34 (ji17) (of_decide_eq_true (by first|(with_reducible assumption)|assumption)) q54 hroom54
              have hr54:=Kd.F_take (m:=((ji17) : Int).toNat) hC54 (by omega)
              have hy54 : y207.length=((ji17) : Int).toNat:=(by rw [Ny207.out,List.length_take];omega)
              rw [← Ny207.out] at hr54
              rw [← hy54] at hcut54
              have HO211:=Aside0.mk (show Kd.V k34 34 _ w.heap.size _ (.slice Ao34 y207.length co34) y207 from Kd.V_mk (by omega) hr54)
              have HC211:=Aside0.mk (show y207.length≤co34 from by omega)
              clear hr54 hC54 hroom54 hi054 hsz54
              have KY54:=Aside0.mk hy54
              clear hy54
              replace q54:=eq_true q54
              refine start_ (n:=8) (S:=fun w'=>w'.cell? ⟨gb182,0,none⟩=some (.slice Ao30 t176.length co30)∧w'.cell? ⟨gb182,1,none⟩=some (.int .i64 t179)∧w'.cell? ⟨gb182,2,none⟩=some (.int .i64 t180)∧w'.cell? ⟨gb182,3,none⟩=some (.int .i64 t181)) (ds:=[]) #[false,false,false,false,false,false,false,false] (by kernel_rfl) rfl rfl ⟨(blk_cell BK182.out 0).trans rfl,(blk_cell BK182.out 1).trans rfl,(blk_cell BK182.out 2).trans rfl,(blk_cell BK182.out 3).trans rfl⟩ (fun hHeld=>?_);refine with_tabW thresherlaw04_SchemaRows.tab9 thresherlaw04_SchemaRows.bits9 (fun HT_ HW_=>?_)
              generalize w52.drew=w53 at HO178 HO185 HO191 HO202 HO205 BK174 BK182 HB HO211 hHeld ⊢
              refine pure_ (i:=1) (N:=some 46) (v:=?_) (a':=?_) #[false,true,false,false,false,false,false,false] rfl rfl (any_of HT_.out (by kernel_rfl)) (fun _ _ _ h=>h) (Or.inl ⟨by rfl,?_⟩) ?_ ?_
              rotate_left;(intro w';go_simp;with_reducible rfl);rotate_left;(simp only [Act.put,List.setIfInBounds_toArray,List.set_cons_zero,List.set_cons_succ,i64_w,i32_w];rfl)
              refine pure_ (i:=2) (N:=some 47) (v:=?_) (a':=?_) #[false,true,true,false,false,false,false,false] rfl rfl (any_of HT_.out (by kernel_rfl)) (fun _ _ _ h=>h) (Or.inl ⟨by rfl,?_⟩) ?_ ?_
              rotate_left;(intro w';go_simp;with_reducible rfl);rotate_left;(simp only [Act.put,List.setIfInBounds_toArray,List.set_cons_zero,List.set_cons_succ,i64_w,i32_w];rfl)
              refine pure_ (i:=3) (N:=some 48) (v:=?_) (a':=?_) #[false,true,true,true,false,false,false,false] rfl rfl (any_of HT_.out (by kernel_rfl)) (fun _ _ _ h=>h) (Or.inl ⟨by rfl,?_⟩) ?_ ?_
              rotate_left;(intro w';go_simp;with_reducible rfl);rotate_left;(simp only [Act.put,List.setIfInBounds_toArray,List.set_cons_zero,List.set_cons_succ,i64_w,i32_w];rfl)
              refine pure_ (i:=4) (N:=some 49) (v:=?_) (a':=?_) #[false,true,true,true,true,false,false,false] rfl rfl (any_of HT_.out (by kernel_rfl)) (fun _ _ _ h=>h) (Or.inl ⟨by rfl,?_⟩) ?_ ?_
              rotate_left;(intro w';go_simp;with_reducible rfl);rotate_left;(simp only [Act.put,List.setIfInBounds_toArray,List.set_cons_zero,List.set_cons_succ,i64_w,i32_w];rfl)
              refine pure_ (i:=5) (N:=some 50) (v:=?_) (a':=?_) #[false,true,true,true,true,true,false,false] rfl rfl (any_of HT_.out (by kernel_rfl)) (fun _ _ _ h=>h) (Or.inl ⟨by rfl,?_⟩) ?_ ?_
              rotate_left;(intro w';go_simp;with_reducible rfl);rotate_left;(simp only [Act.put,List.setIfInBounds_toArray,List.set_cons_zero,List.set_cons_succ,i64_w,i32_w];rfl)
              refine take_ (i:=0) (N:=some 45) (v:=?_) (a':=?_) #[true,true,true,true,true,true,false,false] rfl rfl (take_ofW HT_.out HW_.out (by kernel_rfl)) (fun _ _ _ h=>h) (Or.inl ⟨by rfl,?_⟩) hHeld ?_ ?_
              rotate_left;(rintro w' ⟨s0,s1,s2,s3⟩;go_simp;with_reducible rfl);rotate_left;(simp only [Act.put,List.setIfInBounds_toArray,List.set_cons_zero,List.set_cons_succ,i64_w,i32_w];rfl)
              refine one_ (i:=6) (N:=some 51) #[true,true,true,true,true,true,true,false] rfl rfl (one_of HT_.out (by kernel_rfl)) (by decide) (fun K hK=>?_)
              refine goes_ Try.func12 (by kernel_rfl) rfl #[.agg #[.slice Ao30 t176.length co30,.int .i64 t179,.int .i64 t180,.int .i64 t181],.slice Ao34 y207.length co34] (by rfl) rfl rfl (by (try simp only [List.map_toArray,List.map_cons,List.map_nil]);first|done|rfl|(simp only [List.length_drop,List.length_take];rfl)) ?_
              with_reducible refine (schema_Row.calls _ _ t176 t179 t180 t181 _ _ y207 t212 _ ?side1 ?side2 ?side3 ?side4 A20.out).mono ?_
              (case side1=>repeat (first|exact (Kd.R_reads' HO178.out).2.2|(with_reducible refine Kd.C_alloc ?_ _)|(with_reducible refine Kd.C_drewN ?_ _)|(with_reducible refine Kd.C_drew ?_)))
              (case side2=>exact (Kd.R_reads' HO178.out).2.1)
              (case side3=>repeat (first|exact (Kd.V_reads' HO211.out).2.2|(with_reducible refine Kd.C_alloc ?_ _)|(with_reducible refine Kd.C_drewN ?_ _)|(with_reducible refine Kd.C_drew ?_)))
              (case side4=>exact (Kd.V_reads' HO211.out).2.1)
              rintro e w55 ⟨rfl,hb⟩
              refine ⟨_,rfl,?_⟩
              have n0_:=Aside0.mk (Kd.R_below (R_up HO178.out) hb)
              have n1_:=Aside0.mk (Kd.R_below (R_up HO185.out) hb)
              have n2_:=Aside0.mk (Kd.R_below (R_up HO191.out) hb)
              have n3_:=Aside0.mk (Kd.R_below (R_up HO202.out) hb)
              have n4_:=Aside0.mk (Kd.R_below (R_up HO205.out) hb)
              have n5_:=Aside0.mk (Kd.V_below (V_up HO211.out) hb)
              have n6_:=Aside0.mk (blk_below (blk_up BK174.out) hb)
              have n7_:=Aside0.mk (blk_below (blk_up BK182.out) hb)
              have n8_:=Aside0.mk (below_step (below_go HB.out) hb)
              clear HO178
              clear HO185
              clear HO191
              clear HO202
              clear HO205
              clear HO211
              clear BK174
              clear BK182
              clear HB
              have HO178:=n0_
              have HO185:=n1_
              have HO191:=n2_
              have HO202:=n3_
              have HO205:=n4_
              have HO211:=n5_
              have BK174:=n6_
              have BK182:=n7_
              have HB:=n8_
              clear n0_ n1_ n2_ n3_ n4_ n5_ n6_ n7_ n8_
              (try clear hb)
              (try clear hb2)
              (try clear hk)
              (try clear hi)
              refine hK.out _ _ ⟨(blk_cell BK182.out 0).trans rfl,(blk_cell BK182.out 1).trans rfl,(blk_cell BK182.out 2).trans rfl,(blk_cell BK182.out 3).trans rfl⟩ (fun hHeld=>?_)
              clear hK K
              refine norm_ (a':=?_) ?_ ?_
              rotate_left
              ·show Act.put _ (some 51) _=_
               simp only [Act.put,List.setIfInBounds_toArray,List.set_cons_zero,List.set_cons_succ,i64_w,i32_w]
               rfl
              refine pure_ (i:=7) (N:=some 14) (v:=?_) (a':=?_) #[true,true,true,true,true,true,true,true] rfl rfl (any_of HT_.out (by kernel_rfl)) (fun _ _ _ h=>h) (Or.inl ⟨by rfl,?_⟩) ?_ ?_
              rotate_left;(intro w';go_simp;with_reducible rfl);rotate_left;(simp only [Act.put,List.setIfInBounds_toArray,List.set_cons_zero,List.set_cons_succ,i64_w,i32_w];rfl)
              refine done_ (done_of HT_.out (by kernel_rfl)) ?_
              (try clear hHeld)
              have hcz56_0 : w55.cell? ⟨gb182,0,none⟩=some (.slice Ao30 t176.length co30):=(blk_cell BK182.out 0).trans rfl
              have hcz56_1 : w55.cell? ⟨gb182,1,none⟩=some (.int .i64 t179):=(blk_cell BK182.out 1).trans rfl
              have hcz56_2 : w55.cell? ⟨gb182,2,none⟩=some (.int .i64 t180):=(blk_cell BK182.out 2).trans rfl
              have hcz56_3 : w55.cell? ⟨gb182,3,none⟩=some (.int .i64 t181):=(blk_cell BK182.out 3).trans rfl
              have hfz56_0:=blk_frozen BK182.out 0
              have hfz56_1:=blk_frozen BK182.out 1
              have hfz56_2:=blk_frozen BK182.out 2
              have hfz56_3:=blk_frozen BK182.out 3
              try go_wp2_with (first|((with_reducible refine gate_callee (f:=12) rfl ?_);refine goesL_ (some 54) rfl rfl Try.func12 (by kernel_rfl) rfl #[.agg #[.slice Ao30 t176.length co30,.int .i64 t179,.int .i64 t180,.int .i64 t181],.slice (some ⟨go12,0,none⟩) y192.length co12] rfl (by (try simp only [List.map_toArray,List.map_cons,List.map_nil]);first|done|(rw [show y192.length=y189.length from (Kd.R_reads' HO191.out).1.symm] <;> rfl)|rfl|(simp only [List.length_drop,List.length_take];rfl)) ?_;(with_reducible refine (schema_Row.calls _ _ t176 t179 t180 t181 _ _ y192 t213 _ ?side1 ?side2 ?side3 ?side4 A21.out).mono ?_);(case side1=>repeat (first|exact (Kd.R_reads' HO178.out).2.2|(with_reducible refine Kd.C_alloc ?_ _)|(with_reducible refine Kd.C_drewN ?_ _)|(with_reducible refine Kd.C_drew ?_)));(case side2=>exact (Kd.R_reads' HO178.out).2.1);(case side3=>repeat (first|exact (Kd.R_reads' HO191.out).2.2|(with_reducible refine Kd.C_alloc ?_ _)|(with_reducible refine Kd.C_drewN ?_ _)|(with_reducible refine Kd.C_drew ?_)));(case side4=>rw [show y192.length=y189.length from (Kd.R_reads' HO191.out).1.symm];exact (Kd.R_reads' HO191.out).2.1);rintro e w57 ⟨rfl,hb⟩;refine ⟨_,rfl,?_⟩;have n0_:=Aside0.mk (Kd.R_below (R_up HO178.out) hb);have n1_:=Aside0.mk (Kd.R_below (R_up HO185.out) hb);have n2_:=Aside0.mk (Kd.R_below (R_up HO191.out) hb);have n3_:=Aside0.mk (Kd.R_below (R_up HO202.out) hb);have n4_:=Aside0.mk (Kd.R_below (R_up HO205.out) hb);have n5_:=Aside0.mk (Kd.V_below (V_up HO211.out) hb);have n6_:=Aside0.mk (blk_below (blk_up BK174.out) hb);have n7_:=Aside0.mk (blk_below (blk_up BK182.out) hb);have n8_:=Aside0.mk (below_step (below_go HB.out) hb);clear HO178;clear HO185;clear HO191;clear HO202;clear HO205;clear HO211;clear BK174;clear BK182;clear HB;have HO178:=n0_;have HO185:=n1_;have HO191:=n2_;have HO202:=n3_;have HO205:=n4_;have HO211:=n5_;have BK174:=n6_;have BK182:=n7_;have HB:=n8_;clear n0_ n1_ n2_ n3_ n4_ n5_ n6_ n7_ n8_;(try clear hb);(try clear hb2);(try clear hk);(try clear hi)))
              go_ret
              exact ⟨by first|rfl|(simp [errW_none,errW_some] <;> rfl)|(simp only [← hji9,← hji17];first|rfl|(simp [errW_none,errW_some] <;> rfl))|(simp [*,errW_none,errW_some] <;> rfl),by repeat (first|(with_reducible first|exact HB.out|apply below_alloc|apply pw_below_drewN|apply below_drew1|refine below_set ?_ GE174.out|refine below_set ?_ GE182.out)|exact HB.out)⟩
             ·replace c24:=Bool.eq_false_iff.mpr c24
              subst c24
              have H1 : (if t212=true then (some false) else (if t213=true then (some false) else ((schema_Batch.f t176 t179 t180 t181 (([t183,y192] : List (List (S34))))).bind fun t217=>(if t217=21 then ((schema_Batch.f t176 t179 t180 t181 (([t183] : List (List (S34))))).bind fun t221=>(if t221=0 then ((schema_Batch.f t176 t179 t180 t181 ([] : List (List (S34)))).bind fun t222=>(some (t222 == 22))) else (some false))) else (some false)))))=some r:=by rw [if_neg (show ¬ (false=true) by decide)] at H;exact H
              clear H
              have H:=H1
              clear H1
              by_cases c58 : t212=true
              ·
               revert k a0_0 a0_1 a0_2 a0_3 a0_4 a0_5 a0_6 a0_7 a0_8 a0_9 a0_10 a0_11 A1 c1 l1 a2 r w hu24 hu30 hu34 HR1 HC1 HB t176 t179 t180 t181 A5 t183 A6 c7 c7b0 c7b1 c7b2 y186 Ny186 LMc8 y189 Ny189 ji9 hji9 c10b0 c11b0 y192 Ny192 y194 Ny194 LMc14 y197 Ny197 y200 Ny200 LMc15 y203 Ny203 ji17 hji17 hji17w c18b0 c18b1 c19b0 c19b1 y207 Ny207 t212 A20 t213 A21 A4 A13 A16 H c58
               exact hp0_.out
              ·replace c58:=Bool.eq_false_iff.mpr c58
               subst c58
               have H1 : (if t213=true then (some false) else ((schema_Batch.f t176 t179 t180 t181 (([t183,y192] : List (List (S34))))).bind fun t217=>(if t217=21 then ((schema_Batch.f t176 t179 t180 t181 (([t183] : List (List (S34))))).bind fun t221=>(if t221=0 then ((schema_Batch.f t176 t179 t180 t181 ([] : List (List (S34)))).bind fun t222=>(some (t222 == 22))) else (some false))) else (some false))))=some r:=by rw [if_neg (show ¬ (false=true) by decide)] at H;exact H
               clear H
               have H:=H1
               clear H1
               by_cases c92 : t213=true
               ·
                revert k a0_0 a0_1 a0_2 a0_3 a0_4 a0_5 a0_6 a0_7 a0_8 a0_9 a0_10 a0_11 A1 c1 l1 a2 r w hu24 hu30 hu34 HR1 HC1 HB t176 t179 t180 t181 A5 t183 A6 c7 c7b0 c7b1 c7b2 y186 Ny186 LMc8 y189 Ny189 ji9 hji9 c10b0 c11b0 y192 Ny192 y194 Ny194 LMc14 y197 Ny197 y200 Ny200 LMc15 y203 Ny203 ji17 hji17 hji17w c18b0 c18b1 c19b0 c19b1 y207 Ny207 t213 A21 A4 A13 A16 A20 H c92
                exact hp1_.out
               ·
                revert k a0_0 a0_1 a0_2 a0_3 a0_4 a0_5 a0_6 a0_7 a0_8 a0_9 a0_10 a0_11 A1 c1 l1 a2 r w hu24 hu30 hu34 HR1 HC1 HB t176 t179 t180 t181 A5 t183 A6 c7 c7b0 c7b1 c7b2 y186 Ny186 LMc8 y189 Ny189 ji9 hji9 c10b0 c11b0 y192 Ny192 y194 Ny194 LMc14 y197 Ny197 y200 Ny200 LMc15 y203 Ny203 ji17 hji17 hji17w c18b0 c18b1 c19b0 c19b1 y207 Ny207 t213 A21 A4 A13 A16 A20 H c92
                exact hp2_.out
            ·replace c23:=Bool.eq_false_iff.mpr c23
             subst c23
             have H1 : (some false)=some r:=by rw [if_neg (show ¬ (false=true) by decide)] at H;exact H
             clear H
             have H:=H1
             clear H1
             obtain rfl:=Option.some.inj H
             go_enter Try.func3,Try.ntmps3
             try go_wp2_with (first|((with_reducible refine gate_dst (N:=3) rfl ?_);(try (refine gate_guard (by rfl) ?_;dsimp only));refine box_event ?hg (N:=3) ?hd (cs:=#[.int .u8 a0_0,.int .u8 a0_1,.int .u8 a0_2,.int .u8 a0_3,.int .u8 a0_4,.int .u8 a0_5,.int .u8 a0_6,.int .u8 a0_7,.int .u8 a0_8,.int .u8 a0_9,.int .u8 a0_10,.int .u8 a0_11]) (t:=24) ?hr ?_;(case hd=>rfl);(case hg=>rfl);(case hr=>first|(go_simp;done)|(go_simp;rfl));intro gb174 hg w257 hbox hb;have n0_:=Aside0.mk (below_step (below_up HB.out) hb);have n1_:=Aside0.mk (hbox);have n2_:=Aside0.mk ((by rw [hg];exact (below_size (below_up HB.out)) : w.heap.size≤gb174));have n3_:=Aside0.mk ((by rw [hg];exact (below_size (below_up HB.out)) : w.heap.size≤gb174));clear HB;have HB:=n0_;have BK174:=n1_;have GW174:=n2_;have GE174:=n3_;clear n0_ n1_ n2_ n3_;clear hb hbox hg)|((with_reducible refine gate_callee (f:=9) rfl ?_);refine goesL_ (some 16) rfl rfl Try.func9 (by kernel_rfl) rfl #[] rfl (by (try simp only [List.map_toArray,List.map_cons,List.map_nil]);first|done|rfl|(simp only [List.length_drop,List.length_take];rfl)) ?_;(with_reducible refine (thresherlaw04_shown.calls k  true _ A4.out).mono ?_);rintro e w258 ⟨rfl,hb⟩;refine ⟨_,rfl,?_⟩;have n0_:=Aside0.mk (blk_below (blk_up BK174.out) hb);have n1_:=Aside0.mk (below_step (below_go HB.out) hb);clear BK174;clear HB;have BK174:=n0_;have HB:=n1_;clear n0_ n1_;(try clear hb);(try clear hb2);(try clear hk);(try clear hi);have hcz259_0 : w258.cell? ⟨gb174,0,none⟩=some (.int .u8 a0_0):=(blk_cell BK174.out 0).trans rfl;have hcz259_1 : w258.cell? ⟨gb174,1,none⟩=some (.int .u8 a0_1):=(blk_cell BK174.out 1).trans rfl;have hcz259_2 : w258.cell? ⟨gb174,2,none⟩=some (.int .u8 a0_2):=(blk_cell BK174.out 2).trans rfl;have hcz259_3 : w258.cell? ⟨gb174,3,none⟩=some (.int .u8 a0_3):=(blk_cell BK174.out 3).trans rfl;have hcz259_4 : w258.cell? ⟨gb174,4,none⟩=some (.int .u8 a0_4):=(blk_cell BK174.out 4).trans rfl;have hcz259_5 : w258.cell? ⟨gb174,5,none⟩=some (.int .u8 a0_5):=(blk_cell BK174.out 5).trans rfl;have hcz259_6 : w258.cell? ⟨gb174,6,none⟩=some (.int .u8 a0_6):=(blk_cell BK174.out 6).trans rfl;have hcz259_7 : w258.cell? ⟨gb174,7,none⟩=some (.int .u8 a0_7):=(blk_cell BK174.out 7).trans rfl;have hcz259_8 : w258.cell? ⟨gb174,8,none⟩=some (.int .u8 a0_8):=(blk_cell BK174.out 8).trans rfl;have hcz259_9 : w258.cell? ⟨gb174,9,none⟩=some (.int .u8 a0_9):=(blk_cell BK174.out 9).trans rfl;have hcz259_10 : w258.cell? ⟨gb174,10,none⟩=some (.int .u8 a0_10):=(blk_cell BK174.out 10).trans rfl;have hcz259_11 : w258.cell? ⟨gb174,11,none⟩=some (.int .u8 a0_11):=(blk_cell BK174.out 11).trans rfl;have hfz259_0:=blk_frozen BK174.out 0;have hfz259_1:=blk_frozen BK174.out 1;have hfz259_2:=blk_frozen BK174.out 2;have hfz259_3:=blk_frozen BK174.out 3;have hfz259_4:=blk_frozen BK174.out 4;have hfz259_5:=blk_frozen BK174.out 5;have hfz259_6:=blk_frozen BK174.out 6;have hfz259_7:=blk_frozen BK174.out 7;have hfz259_8:=blk_frozen BK174.out 8;have hfz259_9:=blk_frozen BK174.out 9;have hfz259_10:=blk_frozen BK174.out 10;have hfz259_11:=blk_frozen BK174.out 11)|((with_reducible refine gate_callee (f:=10) rfl ?_);refine goesL_ (some 18) rfl rfl Try.func10 (by kernel_rfl) rfl #[.agg #[.int .u8 a0_0,.int .u8 a0_1,.int .u8 a0_2,.int .u8 a0_3,.int .u8 a0_4,.int .u8 a0_5,.int .u8 a0_6,.int .u8 a0_7,.int .u8 a0_8,.int .u8 a0_9,.int .u8 a0_10,.int .u8 a0_11]] rfl (by (try simp only [List.map_toArray,List.map_cons,List.map_nil]);first|done|rfl|(simp only [List.length_drop,List.length_take];rfl)) ?_;(with_reducible refine (thresherlaw04_made.calls k a0_0 a0_1 a0_2 a0_3 a0_4 a0_5 a0_6 a0_7 a0_8 a0_9 a0_10 a0_11 t176 t179 t180 t181 _ A5.out).mono ?_);rintro e w260 ⟨v177,rfl,ho0,hb⟩;refine ⟨_,rfl,?_⟩;have n0_:=Aside0.mk (Kd.R_lower ho0 (below_size (below_go HB.out)));have n1_:=Aside0.mk (blk_below (blk_up BK174.out) hb);have n2_:=Aside0.mk (below_step (below_go HB.out) hb);clear BK174;clear HB;have HO178:=n0_;have BK174:=n1_;have HB:=n2_;clear n0_ n1_ n2_;(try clear hb);(try clear hb2);(try clear hk);(try clear hi);(try clear ho0))|((with_reducible refine gate_dst (N:=8) rfl ?_);(try (refine gate_guard (by rfl) ?_;dsimp only));refine box_event ?hg (N:=8) ?hd (cs:=#[.slice none 0 0,.int .i64 0,.int .i64 0,.int .i64 0]) (t:=30) ?hr ?_;(case hd=>rfl);(case hg=>rfl);(case hr=>first|(go_simp;done)|(go_simp;rfl));intro gb182 hg w261 hbox hb;have n0_:=Aside0.mk (Kd.R_below (R_up HO178.out) hb);have n1_:=Aside0.mk (blk_below (blk_up BK174.out) hb);have n2_:=Aside0.mk (below_step (below_go HB.out) hb);have n3_:=Aside0.mk (hbox);have n4_:=Aside0.mk ((by rw [hg];exact (below_size (below_go HB.out)) : w.heap.size≤gb182));have n5_:=Aside0.mk ((by rw [hg];exact (below_size (below_go HB.out)) : w.heap.size≤gb182));have n6_:=Aside0.mk ((by rw [hg];exact Nat.ne_of_lt (blk_lt (blk_up BK174.out)) : gb174≠gb182));have n7_:=Aside0.mk ((by rw [hg];exact Nat.ne_of_gt (blk_lt (blk_up BK174.out)) : gb182≠gb174));clear HO178;clear BK174;clear HB;have HO178:=n0_;have BK174:=n1_;have HB:=n2_;have BK182:=n3_;have GW182:=n4_;have GE182:=n5_;have NB174_182:=n6_;have NB182_174:=n7_;clear n0_ n1_ n2_ n3_ n4_ n5_ n6_ n7_;clear hb hbox hg;obtain ⟨Ao262,co262,eo262⟩:=Kd.R_slice HO178.out;subst eo262;have hnb263:=NB182_174.out;have hnc263:=NB174_182.out;have hcz264_0 : w261.cell? ⟨gb182,0,none⟩=some (.slice none 0 0):=(blk_cell BK182.out 0).trans rfl;have hcz264_1 : w261.cell? ⟨gb182,1,none⟩=some (.int .i64 0):=(blk_cell BK182.out 1).trans rfl;have hcz264_2 : w261.cell? ⟨gb182,2,none⟩=some (.int .i64 0):=(blk_cell BK182.out 2).trans rfl;have hcz264_3 : w261.cell? ⟨gb182,3,none⟩=some (.int .i64 0):=(blk_cell BK182.out 3).trans rfl;have hfz264_0:=blk_frozen BK182.out 0;have hfz264_1:=blk_frozen BK182.out 1;have hfz264_2:=blk_frozen BK182.out 2;have hfz264_3:=blk_frozen BK182.out 3)|((with_reducible refine gate_callee (f:=11) rfl ?_);refine goesL_ (some 21) rfl rfl Try.func11 (by kernel_rfl) rfl #[.agg #[.slice Ao262 t176.length co262,.int .i64 t179,.int .i64 t180,.int .i64 t181],.slice A1 l1.length c1] rfl (by (try simp only [List.map_toArray,List.map_cons,List.map_nil]);first|done|rfl|(simp only [List.length_drop,List.length_take];rfl)) ?_;(with_reducible refine (thresherref04_Fit.calls k _ _ t176 t179 t180 t181 _ _ l1 t183 _ ?side1 ?side2 ?side3 ?side4 A6.out).mono ?_);(case side1=>refine (Kd.R_reads' (e:=3) (base:=w.heap.size) (ok:=fun k_=>True) (n:=t176.length) (c:=co262) ?_).2.2;exact (by (with_reducible repeat (first|apply Kd.R_alloc|apply Kd.R_drewN|apply Kd.R_drew));exact (Kd.R_mono (Kd.R_far (p:=⟨gb182,3,none⟩) (Kd.R_far (p:=⟨gb182,2,none⟩) (Kd.R_far (p:=⟨gb182,1,none⟩) (Kd.R_far (p:=⟨gb182,0,none⟩) (Kd.R_types HO178.out BK182.out (by decide)) (fun _ hk=>hk.2) (.slice Ao262 t176.length co262)) (fun _ hk=>hk.2) (.int .i64 t179)) (fun _ hk=>hk.2) (.int .i64 t180)) (fun _ hk=>hk.2) (.int .i64 t181)) (fun _ h_=>h_.1))));(case side2=>exact (Kd.R_reads' HO178.out).2.1);(case side3=>exact Kd.C_below HR1.out (below_go HB.out));(case side4=>exact HC1.out);rintro e w265 ⟨v184,rfl,ho0,hb⟩;refine ⟨_,rfl,?_⟩;have n0_:=Aside0.mk (Kd.R_below (by (with_reducible repeat (first|apply Kd.R_alloc|apply Kd.R_drewN|apply Kd.R_drew));exact (Kd.R_mono (Kd.R_far (p:=⟨gb182,3,none⟩) (Kd.R_far (p:=⟨gb182,2,none⟩) (Kd.R_far (p:=⟨gb182,1,none⟩) (Kd.R_far (p:=⟨gb182,0,none⟩) (Kd.R_types HO178.out BK182.out (by decide)) (fun _ hk=>hk.2) (.slice Ao262 t176.length co262)) (fun _ hk=>hk.2) (.int .i64 t179)) (fun _ hk=>hk.2) (.int .i64 t180)) (fun _ hk=>hk.2) (.int .i64 t181)) (fun _ h_=>h_.1))) hb);have n1_:=Aside0.mk (Kd.R_lower ho0 (below_size (below_go HB.out)));have n2_:=Aside0.mk (blk_below (g:=gb174) (o:=.cells #[.int .u8 a0_0,.int .u8 a0_1,.int .u8 a0_2,.int .u8 a0_3,.int .u8 a0_4,.int .u8 a0_5,.int .u8 a0_6,.int .u8 a0_7,.int .u8 a0_8,.int .u8 a0_9,.int .u8 a0_10,.int .u8 a0_11] 24 (0,0)) (by (with_reducible repeat (first|refine blk_drewN ?_ _|refine blk_drew ?_|refine blk_alloc ?_ _));refine blk_far ?_ NB174_182.out _;(with_reducible repeat (first|refine blk_drewN ?_ _|refine blk_drew ?_|refine blk_alloc ?_ _));refine blk_far ?_ NB174_182.out _;(with_reducible repeat (first|refine blk_drewN ?_ _|refine blk_drew ?_|refine blk_alloc ?_ _));refine blk_far ?_ NB174_182.out _;(with_reducible repeat (first|refine blk_drewN ?_ _|refine blk_drew ?_|refine blk_alloc ?_ _));refine blk_far ?_ NB174_182.out _;(with_reducible repeat (first|refine blk_drewN ?_ _|refine blk_drew ?_|refine blk_alloc ?_ _));exact BK174.out) hb);have n3_:=Aside0.mk (blk_below (g:=gb182) (o:=.cells #[.slice Ao262 t176.length co262,.int .i64 t179,.int .i64 t180,.int .i64 t181] 30 (0,0)) (by (with_reducible repeat (first|refine blk_drewN ?_ _|refine blk_drew ?_|refine blk_alloc ?_ _));refine blk_put (cs:=#[.slice Ao262 t176.length co262,.int .i64 t179,.int .i64 t180,.int .i64 0]) ?_ 3 _ rfl;(with_reducible repeat (first|refine blk_drewN ?_ _|refine blk_drew ?_|refine blk_alloc ?_ _));refine blk_put (cs:=#[.slice Ao262 t176.length co262,.int .i64 t179,.int .i64 0,.int .i64 0]) ?_ 2 _ rfl;(with_reducible repeat (first|refine blk_drewN ?_ _|refine blk_drew ?_|refine blk_alloc ?_ _));refine blk_put (cs:=#[.slice Ao262 t176.length co262,.int .i64 0,.int .i64 0,.int .i64 0]) ?_ 1 _ rfl;(with_reducible repeat (first|refine blk_drewN ?_ _|refine blk_drew ?_|refine blk_alloc ?_ _));refine blk_put (cs:=#[.slice none 0 0,.int .i64 0,.int .i64 0,.int .i64 0]) ?_ 0 _ rfl;(with_reducible repeat (first|refine blk_drewN ?_ _|refine blk_drew ?_|refine blk_alloc ?_ _));exact BK182.out) hb);have n4_:=Aside0.mk (below_step (below_go HB.out) hb);clear HO178;clear BK174;clear BK182;clear HB;have HO178:=n0_;have HO185:=n1_;have BK174:=n2_;have BK182:=n3_;have HB:=n4_;clear n0_ n1_ n2_ n3_ n4_;(try clear hb);(try clear hb2);(try clear hk);(try clear hi);(try clear ho0);obtain ⟨Ao266,co266,eo266⟩:=Kd.R_slice HO185.out;subst eo266)|((with_reducible refine gate_dst (N:=27) rfl ?_);(try (refine gate_guard (by rfl) ?_;dsimp only));refine Kd.R_lit k34 _ 34 ?hg (N:=27) ?hd (xs:=([] : List (S34))) (inner:=[]) (ok:=fun _=>True) (okp:=fun _=>True) ?hr ?hp (fun _ hk=>hk) trivial (Below.refl _ _) (Nat.le_refl _) (by simp) ?_;(case hd=>rfl);(case hg=>rfl);(case hr=>first|(go_simp;done)|(go_simp;rfl));(case hp=>exact (Reps.none _ _));intro v187 w267 ho268 hb hg_ hnew_;clear hg_ hnew_;(first|rw [← Ny186.out] at ho268|(simp only [Int.reduceToNat] at ho268;rw [← Ny186.out] at ho268));have n0_:=Aside0.mk (Kd.R_below (R_up HO178.out) hb);have n1_:=Aside0.mk (Kd.R_elder' (R_up HO185.out) (Kd.R_base ho268) hb);have n2_:=Aside0.mk (Kd.R_lower (Kd.R_new' ho268 (Kd.R_lt (R_up HO185.out))) (below_size (below_go HB.out)));have n3_:=Aside0.mk (blk_below (blk_up BK174.out) hb);have n4_:=Aside0.mk (blk_below (blk_up BK182.out) hb);have n5_:=Aside0.mk (below_step (below_go HB.out) hb);clear HO178;clear HO185;clear BK174;clear BK182;clear HB;have HO178:=n0_;have HO185:=n1_;have HO188:=n2_;have BK174:=n3_;have BK182:=n4_;have HB:=n5_;clear n0_ n1_ n2_ n3_ n4_ n5_;clear hb ho268)|((with_reducible refine gate_builtin (b:=.append) (xs:=#[.tmp 27,.tmp 28]) rfl ?_);(try (refine gate_guard (by rfl) ?_;dsimp only));at_builtin;refine Kd.R_append_rows k34 (w0:=w) w.heap.size rfl (.tmp 27) (.tmp 28) 26 34 (.agg #[(.int .i64 0),(.string ⟨#[]⟩)]) 24 rfl Try.underlying26 info34 rfl (by decide) (by omega) v187 y186 t183 _ _ _ (fun k_=>some k_≠(.slice Ao266 t183.length co266 : Value).ownBlock) (fun _=>False) rfl rfl ?aO ?aR (fun _ _ h=>h) (fun _ h=>h.elim) ?aF ?aB ?aS ?aL ?_;(case aR=>repeat (first|exact (Kd.R_reads' HO185.out).2.2|(with_reducible refine Kd.C_alloc ?_ _)|(with_reducible refine Kd.C_drewN ?_ _)|(with_reducible refine Kd.C_drew ?_)));(case aB=>exact (below_go HB.out));(case aF=>exact (fun k_ hk=>Kd.fresh' (Kd.R_lt (R_up HO185.out)) k_ hk));(case aO=>exact (by (with_reducible repeat (first|apply Kd.R_alloc|apply Kd.R_drewN|apply Kd.R_drew));exact Kd.R_mono HO188.out (fun _ hk=>hk.2)));(case aS=>exact (below_size (below_go HB.out)));(case aL=>have:=LMc8.out;omega);intro v190 w269 ho hb hg hat;rw [← Ny189.out] at ho;have n0_:=Aside0.mk (blk_grown (blk_up BK174.out) hg (Kd.R_ne HO188.out BK174.out (by decide)));have n1_:=Aside0.mk (Kd.R_over' (R_up HO178.out) (Kd.R_typed (R_up HO188.out)) (by decide) hg);have n2_:=Aside0.mk (blk_grown (blk_up BK182.out) hg (Kd.R_ne HO188.out BK182.out (by decide)));have n3_:=Aside0.mk (Kd.R_after (ok:=(fun _=>True)) (R_up HO185.out) hg hat);have n4_:=Aside0.mk (hb);have n5_:=Aside0.mk (ho);clear BK174;clear HO178;clear BK182;clear HO185;clear HB;clear HO188;have BK174:=n0_;have HO178:=n1_;have BK182:=n2_;have HO185:=n3_;have HB:=n4_;have HO191:=n5_;clear n0_ n1_ n2_ n3_ n4_ n5_;clear ho hb hg hat;have p12 : 0≤((ji9) : Int):=of_decide_eq_true (by first|(with_reducible assumption)|assumption);have q12 : ((ji9) : Int) < ((y189.length : Int) : Int):=of_decide_eq_true (by first|(with_reducible assumption)|assumption);obtain ⟨go12,co12,eo12,gb12,gl12,cl12,HG12⟩:=Kd.R_form HO191.out (by omega);(first|cases eo12|(injection eo12 with ea_ en_ ec_;(first|subst ea_|(injection ea_ with ea_;subst ea_));subst ec_;clear en_));have GB12:=Aside0.mk gb12;have GG12:=Aside0.mk HG12;clear gb12 gl12 HG12;obtain ⟨ce12,hcl12,hM12,hcc12,hfr12⟩:=Kd.R_elem HO191.out z34 ((ji9) : Int) p12 q12;obtain rfl:=k34_openM hM12;have hx12_0 : w269.cell? ⟨go12,((ji9) : Int).toNat * 2,none⟩=some (.int .i64 ((rd_T34 y189 (ji9)).f0)):=hcc12 0 _ rfl;have hx12_1 : w269.cell? ⟨go12,((ji9) : Int).toNat * 2 + 1,none⟩=some (.string ((rd_T34 y189 (ji9)).f1)):=hcc12 1 _ rfl;have hf12_0 : w269.frozen? ⟨go12,((ji9) : Int).toNat * 2,none⟩=false:=hfr12 0;have hf12_1 : w269.frozen? ⟨go12,((ji9) : Int).toNat * 2 + 1,none⟩=false:=hfr12 1;clear hcl12 hcc12 hfr12 hM12;replace p12:=eq_true p12;replace q12:=eq_true q12;have HX270:=Aside0.mk (show Kd.R k34 34 w269 w.heap.size (fun k_=>some k_≠(.slice Ao266 t183.length co266 : Value).ownBlock) (.slice (some ⟨go12,0,none⟩) y189.length co12) y189 from (R_up HO191.out));obtain ⟨ce270,hcl270,hM270,hcc270,hfr270⟩:=Kd.R_elem HX270.out z34 ((ji9) : Int) (of_decide_eq_true (by first|(with_reducible assumption)|assumption)) (by have h_ : ((ji9) : Int) < ((y189.length : Int) : Int):=of_decide_eq_true (by first|(with_reducible assumption)|assumption);first|exact h_|(have e_:=(Kd.R_reads' HO191.out).1;omega)|simpa using h_);obtain rfl:=k34_openM hM270;have HP270:=Kd.R_seg HX270.out ((ji9) : Int) (of_decide_eq_true (by first|(with_reducible assumption)|assumption)) (by have h_ : ((ji9) : Int) < ((y189.length : Int) : Int):=of_decide_eq_true (by first|(with_reducible assumption)|assumption);first|exact h_|(have e_:=(Kd.R_reads' HO191.out).1;omega)|simpa using h_) (seg:=[.int .i64 1,.string (⟨#[120]⟩ : ByteArray)]) (j:=0) hcl270 hcc270 (show 2≤2 from by decide) (x':=(⟨1,(⟨#[120]⟩ : ByteArray)⟩ : S34)) (k34_mkM _ _ _ (⟨1,(⟨#[120]⟩ : ByteArray)⟩ : S34) ) (fun _ hk=>hk);have hx270_0:=hcc270 0 _ rfl;(try simp only [show (k34).sz=2 from rfl,Nat.mul_one,Nat.add_zero] at hx270_0);have hf270_0:=hfr270 0;(try simp only [show (k34).sz=2 from rfl,Nat.mul_one,Nat.add_zero] at hf270_0);have hx270_1:=hcc270 1 _ rfl;(try simp only [show (k34).sz=2 from rfl,Nat.mul_one,Nat.add_zero] at hx270_1);have hf270_1:=hfr270 1;(try simp only [show (k34).sz=2 from rfl,Nat.mul_one,Nat.add_zero] at hf270_1);clear hcl270 hcc270 hfr270 hM270)|((with_reducible refine gate_store (t:=34) (p:=33) rfl ?_);refine store_event (t:=34) (p:=33) (v:=?vo_w271) (w1:=((w269.setCell ⟨go12,((ji9) : Int).toNat * 2,none⟩ (.int .i64 1)).setCell ⟨go12,((ji9) : Int).toNat * 2 + 1,none⟩ (.string (⟨#[120]⟩ : ByteArray)))) ?hg ?ho ?hn ?hr ?_;(case ho=>rfl);(case hg=>rfl);(case hn=>rfl);(case hr=>first|(go_simp;done)|(go_simp;rfl));intro w271 hw;have hg : w269.grownBy w271 (some go12):=(by rw [hw];exact HP270.2);have hp_ : Kd.R k34 34 w271 w.heap.size (fun k_=>some k_≠(.slice Ao266 t183.length co266 : Value).ownBlock) (.slice (some ⟨go12,0,none⟩) y189.length co12) y192:=(by rw [hw,Ny192.out];exact HP270.1);clear HP270;have n0_:=Aside0.mk (blk_grown (blk_up BK174.out) hg (Kd.R_ne HO191.out BK174.out (by decide)));have n1_:=Aside0.mk (Kd.R_over' (v:=(.slice (some ⟨go12,0,none⟩) y189.length co12)) (R_up HO178.out) (Kd.R_typed HO191.out) (by decide) hg);have n2_:=Aside0.mk (blk_grown (blk_up BK182.out) hg (Kd.R_ne HO191.out BK182.out (by decide)));have n3_:=Aside0.mk (Kd.R_after (v:=(.slice (some ⟨go12,0,none⟩) y189.length co12)) (v1:=(.slice (some ⟨go12,0,none⟩) y189.length co12)) (ok:=(fun _=>True)) (R_up HO185.out) hg (.inl rfl));have n4_:=Aside0.mk (hp_);have n5_:=Aside0.mk ((by rw [hw];exact below_set (below_set (HB.out) GB12.out) GB12.out : Below w.heap.size w w271));clear BK174;clear HO178;clear BK182;clear HO185;clear HO191;clear HB;have BK174:=n0_;have HO178:=n1_;have BK182:=n2_;have HO185:=n3_;have HO191:=n4_;have HB:=n5_;clear n0_ n1_ n2_ n3_ n4_ n5_;clear hg hw hp_;have hcz272_0 : w271.cell? ⟨gb182,0,none⟩=some (.slice Ao262 t176.length co262):=(blk_cell BK182.out 0).trans rfl;have hcz272_1 : w271.cell? ⟨gb182,1,none⟩=some (.int .i64 t179):=(blk_cell BK182.out 1).trans rfl;have hcz272_2 : w271.cell? ⟨gb182,2,none⟩=some (.int .i64 t180):=(blk_cell BK182.out 2).trans rfl;have hcz272_3 : w271.cell? ⟨gb182,3,none⟩=some (.int .i64 t181):=(blk_cell BK182.out 3).trans rfl;have hfz272_0:=blk_frozen BK182.out 0;have hfz272_1:=blk_frozen BK182.out 1;have hfz272_2:=blk_frozen BK182.out 2;have hfz272_3:=blk_frozen BK182.out 3)|((with_reducible refine gate_callee (f:=12) rfl ?_);refine goesL_ (some 36) rfl rfl Try.func12 (by kernel_rfl) rfl #[.agg #[.slice Ao262 t176.length co262,.int .i64 t179,.int .i64 t180,.int .i64 t181],.slice Ao266 t183.length co266] rfl (by (try simp only [List.map_toArray,List.map_cons,List.map_nil]);first|done|rfl|(simp only [List.length_drop,List.length_take];rfl)) ?_;(with_reducible refine (schema_Row.calls _ _ t176 t179 t180 t181 _ _ t183 false _ ?side1 ?side2 ?side3 ?side4 A13.out).mono ?_);(case side1=>repeat (first|exact (Kd.R_reads' HO178.out).2.2|(with_reducible refine Kd.C_alloc ?_ _)|(with_reducible refine Kd.C_drewN ?_ _)|(with_reducible refine Kd.C_drew ?_)));(case side2=>exact (Kd.R_reads' HO178.out).2.1);(case side3=>repeat (first|exact (Kd.R_reads' HO185.out).2.2|(with_reducible refine Kd.C_alloc ?_ _)|(with_reducible refine Kd.C_drewN ?_ _)|(with_reducible refine Kd.C_drew ?_)));(case side4=>exact (Kd.R_reads' HO185.out).2.1);rintro e w273 ⟨rfl,hb⟩;refine ⟨_,rfl,?_⟩;have n0_:=Aside0.mk (Kd.R_below (R_up HO178.out) hb);have n1_:=Aside0.mk (Kd.R_below (R_up HO185.out) hb);have n2_:=Aside0.mk (Kd.R_below (R_up HO191.out) hb);have n3_:=Aside0.mk (blk_below (blk_up BK174.out) hb);have n4_:=Aside0.mk (blk_below (blk_up BK182.out) hb);have n5_:=Aside0.mk (below_step (below_go HB.out) hb);clear HO178;clear HO185;clear HO191;clear BK174;clear BK182;clear HB;have HO178:=n0_;have HO185:=n1_;have HO191:=n2_;have BK174:=n3_;have BK182:=n4_;have HB:=n5_;clear n0_ n1_ n2_ n3_ n4_ n5_;(try clear hb);(try clear hb2);(try clear hk);(try clear hi)))
             have n0_:=Aside0.mk (Kd.R_drew HO178.out)
             have n1_:=Aside0.mk (Kd.R_drew HO185.out)
             have n2_:=Aside0.mk (Kd.R_drew HO191.out)
             have n3_:=Aside0.mk (blk_drew BK174.out)
             have n4_:=Aside0.mk (blk_drew BK182.out)
             have n5_:=Aside0.mk (below_drew1 HB.out)
             clear HO178
             clear HO185
             clear HO191
             clear BK174
             clear BK182
             clear HB
             have HO178:=n0_
             have HO185:=n1_
             have HO191:=n2_
             have BK174:=n3_
             have BK182:=n4_
             have HB:=n5_
             clear n0_ n1_ n2_ n3_ n4_ n5_
             refine start_ (n:=9) (S:=fun w'=>w'.cell? ⟨gb182,0,none⟩=some (.slice Ao262 t176.length co262)∧w'.cell? ⟨gb182,1,none⟩=some (.int .i64 t179)∧w'.cell? ⟨gb182,2,none⟩=some (.int .i64 t180)∧w'.cell? ⟨gb182,3,none⟩=some (.int .i64 t181)) (ds:=[]) #[false,false,false,false,false,false,false,false,false] (by kernel_rfl) rfl rfl ⟨(blk_cell BK182.out 0).trans rfl,(blk_cell BK182.out 1).trans rfl,(blk_cell BK182.out 2).trans rfl,(blk_cell BK182.out 3).trans rfl⟩ (fun hHeld=>?_);refine with_tabW thresherlaw04_SchemaRows.tab8 thresherlaw04_SchemaRows.bits8 (fun HT_ HW_=>?_)
             generalize w273.drew=w274 at HO178 HO185 HO191 BK174 BK182 HB hHeld ⊢
             refine pure_ (i:=2) (N:=some 39) (v:=?_) (a':=?_) #[false,false,true,false,false,false,false,false,false] rfl rfl (any_of HT_.out (by kernel_rfl)) (fun _ _ _ h=>h) (Or.inl ⟨by rfl,?_⟩) ?_ ?_
             rotate_left;(intro w';go_simp;with_reducible rfl);rotate_left;(simp only [Act.put,List.setIfInBounds_toArray,List.set_cons_zero,List.set_cons_succ,i64_w,i32_w];rfl)
             refine pure_ (i:=4) (N:=some 41) (v:=?_) (a':=?_) #[false,false,true,false,true,false,false,false,false] rfl rfl (any_of HT_.out (by kernel_rfl)) (fun _ _ _ h=>h) (Or.inl ⟨by rfl,?_⟩) ?_ ?_
             rotate_left;(intro w';go_simp;with_reducible rfl);rotate_left;(simp only [Act.put,List.setIfInBounds_toArray,List.set_cons_zero,List.set_cons_succ,i64_w,i32_w];rfl)
             refine take_ (i:=0) (N:=some 37) (v:=?_) (a':=?_) #[true,false,true,false,true,false,false,false,false] rfl rfl (take_ofW HT_.out HW_.out (by kernel_rfl)) (fun _ _ _ h=>h) (Or.inl ⟨by rfl,?_⟩) hHeld ?_ ?_
             rotate_left;(rintro w' ⟨s0,s1,s2,s3⟩;go_simp;with_reducible rfl);rotate_left;(simp only [Act.put,List.setIfInBounds_toArray,List.set_cons_zero,List.set_cons_succ,i64_w,i32_w];rfl)
             refine join_ (σ:=Value × Value × Value) 3 #[true,true,true,true,true,true,false,false,false] (fun s_=>[(38,s_.1),(40,s_.2.1),(42,s_.2.2)]) (fun s_ w'=>(w'.cell? ⟨gb182,0,none⟩=some (.slice Ao262 t176.length co262)∧w'.cell? ⟨gb182,1,none⟩=some (.int .i64 t179)∧w'.cell? ⟨gb182,2,none⟩=some (.int .i64 t180)∧w'.cell? ⟨gb182,3,none⟩=some (.int .i64 t181))∧(Kd.R (Kd.int .i64) 3 w' w.heap.size (fun _=>True) (.slice Ao262 t176.length co262) t176)∧(Kd.R k34 34 w' w.heap.size (fun k_=>some k_≠(.slice (some ⟨go12,0,none⟩) y189.length co12 : Value).ownBlock∧some k_≠(s_.2.1 : Value).ownBlock∧some k_≠(s_.2.2 : Value).ownBlock) (.slice Ao266 t183.length co266) t183)∧(Kd.R k34 34 w' w.heap.size (fun k_=>some k_≠(.slice Ao266 t183.length co266 : Value).ownBlock∧some k_≠(s_.2.1 : Value).ownBlock∧some k_≠(s_.2.2 : Value).ownBlock) (.slice (some ⟨go12,0,none⟩) y189.length co12) y192)∧(Kd.R k34 34 w' w.heap.size (fun k_=>some k_≠(.slice Ao266 t183.length co266 : Value).ownBlock∧some k_≠(.slice (some ⟨go12,0,none⟩) y189.length co12 : Value).ownBlock∧some k_≠(s_.2.2 : Value).ownBlock) s_.2.1 y197)∧(Kd.R k34 34 w' w.heap.size (fun k_=>some k_≠(.slice Ao266 t183.length co266 : Value).ownBlock∧some k_≠(.slice (some ⟨go12,0,none⟩) y189.length co12 : Value).ownBlock∧some k_≠(s_.2.1 : Value).ownBlock) s_.2.2 y200)∧(w'.heap[gb174]?=some (.cells #[.int .u8 a0_0,.int .u8 a0_1,.int .u8 a0_2,.int .u8 a0_3,.int .u8 a0_4,.int .u8 a0_5,.int .u8 a0_6,.int .u8 a0_7,.int .u8 a0_8,.int .u8 a0_9,.int .u8 a0_10,.int .u8 a0_11] 24 (0,0)))∧(w'.heap[gb182]?=some (.cells #[.slice Ao262 t176.length co262,.int .i64 t179,.int .i64 t180,.int .i64 t181] 30 (0,0)))∧(Below w.heap.size w w')) ?_ ?_
             rotate_left
             ·intro hCont
              refine two_ (i:=1) (j:=5) (Ni:=some 38) (Nj:=some 42) #[true,true,true,false,true,false,false,false,false] #[true,false,true,false,true,true,false,false,false] rfl rfl rfl rfl (two_of HT_.out (by kernel_rfl)) (by decide) (by decide) (fun K hK=>?_) (fun K hK=>?_)
              ·skip
               refine Kd.R_lit_step k34 _ 34 ?hg (N:=38) ?hd (xs:=([] : List (S34))) (inner:=[]) (ok:=fun _=>True) (okp:=fun _=>True) ?hr ?hp (fun _ hk=>hk) trivial (Below.refl _ _) (Nat.le_refl _) (by simp) ?_;(case hd=>rfl);(case hg=>rfl);(case hr=>first|(go_simp;done)|(go_simp;rfl));(case hp=>exact (Reps.none _ _))
               intro v195 w275 ho276 hb hg_ hnew_
               clear hg_ hnew_
               (first|rw [← Ny194.out] at ho276|(simp only [Int.reduceToNat] at ho276;rw [← Ny194.out] at ho276))
               have n0_:=Aside0.mk (Kd.R_below (R_up HO178.out) hb)
               have n1_:=Aside0.mk (Kd.R_elder' (R_up HO185.out) (Kd.R_base ho276) hb)
               have n2_:=Aside0.mk (Kd.R_elder' (R_up HO191.out) (Kd.R_base ho276) hb)
               have n3_:=Aside0.mk (Kd.R_lower (Kd.R_new' (Kd.R_new' ho276 (Kd.R_lt (R_up HO185.out))) (Kd.R_lt (R_up HO191.out))) (below_size (below_go HB.out)))
               have n4_:=Aside0.mk (blk_below (blk_up BK174.out) hb)
               have n5_:=Aside0.mk (blk_below (blk_up BK182.out) hb)
               have n6_:=Aside0.mk (below_step (below_go HB.out) hb)
               clear HO178
               clear HO185
               clear HO191
               clear BK174
               clear BK182
               clear HB
               have HO178:=n0_
               have HO185:=n1_
               have HO191:=n2_
               have HO196:=n3_
               have BK174:=n4_
               have BK182:=n5_
               have HB:=n6_
               clear n0_ n1_ n2_ n3_ n4_ n5_ n6_
               clear hb ho276
               refine hK.out _ _ ⟨(blk_cell BK182.out 0).trans rfl,(blk_cell BK182.out 1).trans rfl,(blk_cell BK182.out 2).trans rfl,(blk_cell BK182.out 3).trans rfl⟩ (fun hHeld=>?_)
               clear hK K
               refine norm_ (a':=?_) ?_ ?_
               rotate_left
               ·show Act.put _ (some 38) _=_
                simp only [Act.put,List.setIfInBounds_toArray,List.set_cons_zero,List.set_cons_succ,i64_w,i32_w]
                rfl
               refine two_ (i:=3) (j:=5) (Ni:=some 40) (Nj:=some 42) #[true,true,true,true,true,false,false,false,false] #[true,true,true,false,true,true,false,false,false] rfl rfl rfl rfl (two_of HT_.out (by kernel_rfl)) (by decide) (by decide) (fun K hK=>?_) (fun K hK=>?_)
               ·skip
                refine Kd.R_append_rows_step k34 (w0:=w) w.heap.size (by rfl) (.tmp 38) (.tmp 39) 26 34 (.agg #[(.int .i64 0),(.string ⟨#[]⟩)]) 24 rfl Try.underlying26 info34 rfl (by decide) (by omega) v195 y194 t183 _ _ _ (fun k_=>some k_≠(.slice Ao266 t183.length co266 : Value).ownBlock∧some k_≠(.slice (some ⟨go12,0,none⟩) y189.length co12 : Value).ownBlock) (fun _=>False) rfl rfl ?aO ?aR (fun _ _ h=>h) (fun _ h=>h.elim) ?aF ?aB ?aS ?aL ?_
                (case aR=>repeat (first|exact (Kd.R_reads' HO185.out).2.2|(with_reducible refine Kd.C_alloc ?_ _)|(with_reducible refine Kd.C_drewN ?_ _)|(with_reducible refine Kd.C_drew ?_)))
                (case aB=>exact (below_go HB.out))
                (case aF=>exact (fun k_ hk=>⟨Kd.fresh' (Kd.R_lt (R_up HO185.out)) k_ hk,Kd.fresh' (Kd.R_lt (R_up HO191.out)) k_ hk⟩))
                (case aO=>exact (by (with_reducible repeat (first|apply Kd.R_alloc|apply Kd.R_drewN|apply Kd.R_drew));exact Kd.R_mono HO196.out (fun _ hk=>⟨hk.1.2,hk.2⟩)))
                (case aS=>exact (below_size (below_go HB.out)))
                (case aL=>have:=LMc14.out;omega)
                intro v198 w277 ho hb hg hat
                rw [← Ny197.out] at ho
                have n0_:=Aside0.mk (blk_grown (blk_up BK174.out) hg (Kd.R_ne HO196.out BK174.out (by decide)))
                have n1_:=Aside0.mk (Kd.R_over' (R_up HO178.out) (Kd.R_typed (R_up HO196.out)) (by decide) hg)
                have n2_:=Aside0.mk (blk_grown (blk_up BK182.out) hg (Kd.R_ne HO196.out BK182.out (by decide)))
                have n3_:=Aside0.mk (Kd.R_after (ok:=(fun k_=>some k_≠(.slice (some ⟨go12,0,none⟩) y189.length co12 : Value).ownBlock)) (by (with_reducible repeat (first|apply Kd.R_alloc|apply Kd.R_drewN|apply Kd.R_drew));exact Kd.R_mono HO185.out (fun _ hk=>⟨hk.1.2,hk.2⟩)) hg hat)
                have n4_:=Aside0.mk (Kd.R_after (ok:=(fun k_=>some k_≠(.slice Ao266 t183.length co266 : Value).ownBlock)) (R_up HO191.out) hg hat)
                have n5_:=Aside0.mk (hb)
                have n6_:=Aside0.mk (ho)
                clear BK174
                clear HO178
                clear BK182
                clear HO185
                clear HO191
                clear HB
                clear HO196
                have BK174:=n0_
                have HO178:=n1_
                have BK182:=n2_
                have HO185:=n3_
                have HO191:=n4_
                have HB:=n5_
                have HO199:=n6_
                clear n0_ n1_ n2_ n3_ n4_ n5_ n6_
                clear ho hb hg hat
                refine hK.out _ _ ⟨(blk_cell BK182.out 0).trans rfl,(blk_cell BK182.out 1).trans rfl,(blk_cell BK182.out 2).trans rfl,(blk_cell BK182.out 3).trans rfl⟩ (fun hHeld=>?_)
                clear hK K
                refine norm_ (a':=?_) ?_ ?_
                rotate_left
                ·show Act.put _ (some 40) _=_
                 simp only [Act.put,List.setIfInBounds_toArray,List.set_cons_zero,List.set_cons_succ,i64_w,i32_w]
                 rfl
                refine one_ (i:=5) (N:=some 42) #[true,true,true,true,true,true,false,false,false] rfl rfl (one_of HT_.out (by kernel_rfl)) (by decide) (fun K hK=>?_)
                refine Kd.R_lit_step k34 _ 34 ?hg (N:=42) ?hd (xs:=([(⟨0,(⟨#[]⟩ : ByteArray)⟩ : S34)] : List (S34))) (inner:=[.int .i64 0,.string (⟨#[]⟩ : ByteArray)]) (ok:=fun _=>True) (okp:=fun _=>True) ?hr ?hp (fun _ hk=>hk) trivial (Below.refl _ _) (Nat.le_refl _) (by simp) ?_;(case hd=>rfl);(case hg=>rfl);(case hr=>first|(go_simp;done)|(go_simp;rfl));(case hp=>exact (Reps.c2 (show Kd.M k34 _ _ _ (⟨0,(⟨#[]⟩ : ByteArray)⟩ : S34) [.int .i64 0,.string (⟨#[]⟩ : ByteArray)] from (k34_mkM _ _ _ (⟨0,(⟨#[]⟩ : ByteArray)⟩ : S34) )) (Reps.none _ _)))
                intro v201 w278 ho279 hb hg_ hnew_
                clear hg_ hnew_
                (first|rw [← Ny200.out] at ho279|(simp only [Int.reduceToNat] at ho279;rw [← Ny200.out] at ho279))
                have n0_:=Aside0.mk (Kd.R_below (R_up HO178.out) hb)
                have n1_:=Aside0.mk (Kd.R_elder' (R_up HO185.out) (Kd.R_base ho279) hb)
                have n2_:=Aside0.mk (Kd.R_elder' (R_up HO191.out) (Kd.R_base ho279) hb)
                have n3_:=Aside0.mk (Kd.R_elder' (R_up HO199.out) (Kd.R_base ho279) hb)
                have n4_:=Aside0.mk (Kd.R_lower (Kd.R_new' (Kd.R_new' (Kd.R_new' ho279 (Kd.R_lt (R_up HO185.out))) (Kd.R_lt (R_up HO191.out))) (Kd.R_lt (R_up HO199.out))) (below_size (below_go HB.out)))
                have n5_:=Aside0.mk (blk_below (blk_up BK174.out) hb)
                have n6_:=Aside0.mk (blk_below (blk_up BK182.out) hb)
                have n7_:=Aside0.mk (below_step (below_go HB.out) hb)
                clear HO178
                clear HO185
                clear HO191
                clear HO199
                clear BK174
                clear BK182
                clear HB
                have HO178:=n0_
                have HO185:=n1_
                have HO191:=n2_
                have HO199:=n3_
                have HO202:=n4_
                have BK174:=n5_
                have BK182:=n6_
                have HB:=n7_
                clear n0_ n1_ n2_ n3_ n4_ n5_ n6_ n7_
                clear hb ho279
                refine hK.out _ _ ⟨(blk_cell BK182.out 0).trans rfl,(blk_cell BK182.out 1).trans rfl,(blk_cell BK182.out 2).trans rfl,(blk_cell BK182.out 3).trans rfl⟩ (fun hHeld=>?_)
                clear hK K
                refine norm_ (a':=?_) ?_ ?_
                rotate_left
                ·show Act.put _ (some 42) _=_
                 simp only [Act.put,List.setIfInBounds_toArray,List.set_cons_zero,List.set_cons_succ,i64_w,i32_w]
                 rfl
                exact norm_ (by simp only [putAll,Act.put,List.setIfInBounds_toArray,List.set_cons_zero,List.set_cons_succ]) (hCont (v195,v198,v201) _ ⟨hHeld,(R_up HO178.out),(by (with_reducible repeat (first|apply Kd.R_alloc|apply Kd.R_drewN|apply Kd.R_drew));exact Kd.R_mono HO185.out (fun _ hk=>⟨hk.1.1,⟨hk.1.2,hk.2⟩⟩)),(by (with_reducible repeat (first|apply Kd.R_alloc|apply Kd.R_drewN|apply Kd.R_drew));exact Kd.R_mono HO191.out (fun _ hk=>⟨hk.1.1,⟨hk.1.2,hk.2⟩⟩)),(by (with_reducible repeat (first|apply Kd.R_alloc|apply Kd.R_drewN|apply Kd.R_drew));exact Kd.R_mono HO199.out (fun _ hk=>⟨hk.1.1,⟨hk.1.2,hk.2⟩⟩)),(by (with_reducible repeat (first|apply Kd.R_alloc|apply Kd.R_drewN|apply Kd.R_drew));exact Kd.R_mono HO202.out (fun _ hk=>⟨hk.1.1.2,⟨hk.1.2,hk.2⟩⟩)),(blk_up BK174.out),(blk_up BK182.out),(below_go HB.out)⟩)
               ·skip
                refine Kd.R_lit_step k34 _ 34 ?hg (N:=42) ?hd (xs:=([(⟨0,(⟨#[]⟩ : ByteArray)⟩ : S34)] : List (S34))) (inner:=[.int .i64 0,.string (⟨#[]⟩ : ByteArray)]) (ok:=fun _=>True) (okp:=fun _=>True) ?hr ?hp (fun _ hk=>hk) trivial (Below.refl _ _) (Nat.le_refl _) (by simp) ?_;(case hd=>rfl);(case hg=>rfl);(case hr=>first|(go_simp;done)|(go_simp;rfl));(case hp=>exact (Reps.c2 (show Kd.M k34 _ _ _ (⟨0,(⟨#[]⟩ : ByteArray)⟩ : S34) [.int .i64 0,.string (⟨#[]⟩ : ByteArray)] from (k34_mkM _ _ _ (⟨0,(⟨#[]⟩ : ByteArray)⟩ : S34) )) (Reps.none _ _)))
                intro v201 w277 ho278 hb hg_ hnew_
                clear hg_ hnew_
                (first|rw [← Ny200.out] at ho278|(simp only [Int.reduceToNat] at ho278;rw [← Ny200.out] at ho278))
                have n0_:=Aside0.mk (Kd.R_below (R_up HO178.out) hb)
                have n1_:=Aside0.mk (Kd.R_elder' (R_up HO185.out) (Kd.R_base ho278) hb)
                have n2_:=Aside0.mk (Kd.R_elder' (R_up HO191.out) (Kd.R_base ho278) hb)
                have n3_:=Aside0.mk (Kd.R_elder' (R_up HO196.out) (Kd.R_base ho278) hb)
                have n4_:=Aside0.mk (Kd.R_lower (Kd.R_new' (Kd.R_new' (Kd.R_new' ho278 (Kd.R_lt (R_up HO185.out))) (Kd.R_lt (R_up HO191.out))) (Kd.R_lt (R_up HO196.out))) (below_size (below_go HB.out)))
                have n5_:=Aside0.mk (blk_below (blk_up BK174.out) hb)
                have n6_:=Aside0.mk (blk_below (blk_up BK182.out) hb)
                have n7_:=Aside0.mk (below_step (below_go HB.out) hb)
                clear HO178
                clear HO185
                clear HO191
                clear HO196
                clear BK174
                clear BK182
                clear HB
                have HO178:=n0_
                have HO185:=n1_
                have HO191:=n2_
                have HO196:=n3_
                have HO202:=n4_
                have BK174:=n5_
                have BK182:=n6_
                have HB:=n7_
                clear n0_ n1_ n2_ n3_ n4_ n5_ n6_ n7_
                clear hb ho278
                refine hK.out _ _ ⟨(blk_cell BK182.out 0).trans rfl,(blk_cell BK182.out 1).trans rfl,(blk_cell BK182.out 2).trans rfl,(blk_cell BK182.out 3).trans rfl⟩ (fun hHeld=>?_)
                clear hK K
                refine norm_ (a':=?_) ?_ ?_
                rotate_left
                ·show Act.put _ (some 42) _=_
                 simp only [Act.put,List.setIfInBounds_toArray,List.set_cons_zero,List.set_cons_succ,i64_w,i32_w]
                 rfl
                refine one_ (i:=3) (N:=some 40) #[true,true,true,true,true,true,false,false,false] rfl rfl (one_of HT_.out (by kernel_rfl)) (by decide) (fun K hK=>?_)
                refine Kd.R_append_rows_step k34 (w0:=w) w.heap.size (by rfl) (.tmp 38) (.tmp 39) 26 34 (.agg #[(.int .i64 0),(.string ⟨#[]⟩)]) 24 rfl Try.underlying26 info34 rfl (by decide) (by omega) v195 y194 t183 _ _ _ (fun k_=>some k_≠(.slice Ao266 t183.length co266 : Value).ownBlock∧some k_≠(.slice (some ⟨go12,0,none⟩) y189.length co12 : Value).ownBlock∧some k_≠(v201 : Value).ownBlock) (fun _=>False) rfl rfl ?aO ?aR (fun _ _ h=>h) (fun _ h=>h.elim) ?aF ?aB ?aS ?aL ?_
                (case aR=>repeat (first|exact (Kd.R_reads' HO185.out).2.2|(with_reducible refine Kd.C_alloc ?_ _)|(with_reducible refine Kd.C_drewN ?_ _)|(with_reducible refine Kd.C_drew ?_)))
                (case aB=>exact (below_go HB.out))
                (case aF=>exact (fun k_ hk=>⟨Kd.fresh' (Kd.R_lt (R_up HO185.out)) k_ hk,Kd.fresh' (Kd.R_lt (R_up HO191.out)) k_ hk,Kd.fresh' (Kd.R_lt (R_up HO202.out)) k_ hk⟩))
                (case aO=>exact (by (with_reducible repeat (first|apply Kd.R_alloc|apply Kd.R_drewN|apply Kd.R_drew));exact Kd.R_mono HO196.out (fun _ hk=>⟨hk.1.1.2,⟨hk.1.2,hk.2⟩⟩)))
                (case aS=>exact (below_size (below_go HB.out)))
                (case aL=>have:=LMc14.out;omega)
                intro v198 w279 ho hb hg hat
                rw [← Ny197.out] at ho
                have n0_:=Aside0.mk (blk_grown (blk_up BK174.out) hg (Kd.R_ne HO196.out BK174.out (by decide)))
                have n1_:=Aside0.mk (Kd.R_over' (R_up HO178.out) (Kd.R_typed (R_up HO196.out)) (by decide) hg)
                have n2_:=Aside0.mk (blk_grown (blk_up BK182.out) hg (Kd.R_ne HO196.out BK182.out (by decide)))
                have n3_:=Aside0.mk (Kd.R_after (ok:=(fun k_=>some k_≠(.slice (some ⟨go12,0,none⟩) y189.length co12 : Value).ownBlock∧some k_≠(v201 : Value).ownBlock)) (by (with_reducible repeat (first|apply Kd.R_alloc|apply Kd.R_drewN|apply Kd.R_drew));exact Kd.R_mono HO185.out (fun _ hk=>⟨⟨hk.1.1.2,hk.2⟩,hk.1.2⟩)) hg hat)
                have n4_:=Aside0.mk (Kd.R_after (ok:=(fun k_=>some k_≠(.slice Ao266 t183.length co266 : Value).ownBlock∧some k_≠(v201 : Value).ownBlock)) (by (with_reducible repeat (first|apply Kd.R_alloc|apply Kd.R_drewN|apply Kd.R_drew));exact Kd.R_mono HO191.out (fun _ hk=>⟨⟨hk.1.1,hk.2⟩,hk.1.2⟩)) hg hat)
                have n5_:=Aside0.mk (Kd.R_after (ok:=(fun k_=>some k_≠(.slice Ao266 t183.length co266 : Value).ownBlock∧some k_≠(.slice (some ⟨go12,0,none⟩) y189.length co12 : Value).ownBlock)) (by (with_reducible repeat (first|apply Kd.R_alloc|apply Kd.R_drewN|apply Kd.R_drew));exact Kd.R_mono HO202.out (fun _ hk=>⟨⟨hk.1.1.2,hk.1.2⟩,hk.2⟩)) hg hat)
                have n6_:=Aside0.mk (hb)
                have n7_:=Aside0.mk (ho)
                clear BK174
                clear HO178
                clear BK182
                clear HO185
                clear HO191
                clear HO202
                clear HB
                clear HO196
                have BK174:=n0_
                have HO178:=n1_
                have BK182:=n2_
                have HO185:=n3_
                have HO191:=n4_
                have HO202:=n5_
                have HB:=n6_
                have HO199:=n7_
                clear n0_ n1_ n2_ n3_ n4_ n5_ n6_ n7_
                clear ho hb hg hat
                refine hK.out _ _ ⟨(blk_cell BK182.out 0).trans rfl,(blk_cell BK182.out 1).trans rfl,(blk_cell BK182.out 2).trans rfl,(blk_cell BK182.out 3).trans rfl⟩ (fun hHeld=>?_)
                clear hK K
                refine norm_ (a':=?_) ?_ ?_
                rotate_left
                ·show Act.put _ (some 40) _=_
                 simp only [Act.put,List.setIfInBounds_toArray,List.set_cons_zero,List.set_cons_succ,i64_w,i32_w]
                 rfl
                exact norm_ (by simp only [putAll,Act.put,List.setIfInBounds_toArray,List.set_cons_zero,List.set_cons_succ]) (hCont (v195,v198,v201) _ ⟨hHeld,(R_up HO178.out),(by (with_reducible repeat (first|apply Kd.R_alloc|apply Kd.R_drewN|apply Kd.R_drew));exact Kd.R_mono HO185.out (fun _ hk=>⟨hk.1.1,⟨hk.2,hk.1.2⟩⟩)),(by (with_reducible repeat (first|apply Kd.R_alloc|apply Kd.R_drewN|apply Kd.R_drew));exact Kd.R_mono HO191.out (fun _ hk=>⟨hk.1.1,⟨hk.2,hk.1.2⟩⟩)),(R_up HO199.out),(by (with_reducible repeat (first|apply Kd.R_alloc|apply Kd.R_drewN|apply Kd.R_drew));exact Kd.R_mono HO202.out (fun _ hk=>⟨hk.1.1,⟨hk.1.2,hk.2⟩⟩)),(blk_up BK174.out),(blk_up BK182.out),(below_go HB.out)⟩)
              ·skip
               refine Kd.R_lit_step k34 _ 34 ?hg (N:=42) ?hd (xs:=([(⟨0,(⟨#[]⟩ : ByteArray)⟩ : S34)] : List (S34))) (inner:=[.int .i64 0,.string (⟨#[]⟩ : ByteArray)]) (ok:=fun _=>True) (okp:=fun _=>True) ?hr ?hp (fun _ hk=>hk) trivial (Below.refl _ _) (Nat.le_refl _) (by simp) ?_;(case hd=>rfl);(case hg=>rfl);(case hr=>first|(go_simp;done)|(go_simp;rfl));(case hp=>exact (Reps.c2 (show Kd.M k34 _ _ _ (⟨0,(⟨#[]⟩ : ByteArray)⟩ : S34) [.int .i64 0,.string (⟨#[]⟩ : ByteArray)] from (k34_mkM _ _ _ (⟨0,(⟨#[]⟩ : ByteArray)⟩ : S34) )) (Reps.none _ _)))
               intro v201 w275 ho276 hb hg_ hnew_
               clear hg_ hnew_
               (first|rw [← Ny200.out] at ho276|(simp only [Int.reduceToNat] at ho276;rw [← Ny200.out] at ho276))
               have n0_:=Aside0.mk (Kd.R_below (R_up HO178.out) hb)
               have n1_:=Aside0.mk (Kd.R_elder' (R_up HO185.out) (Kd.R_base ho276) hb)
               have n2_:=Aside0.mk (Kd.R_elder' (R_up HO191.out) (Kd.R_base ho276) hb)
               have n3_:=Aside0.mk (Kd.R_lower (Kd.R_new' (Kd.R_new' ho276 (Kd.R_lt (R_up HO185.out))) (Kd.R_lt (R_up HO191.out))) (below_size (below_go HB.out)))
               have n4_:=Aside0.mk (blk_below (blk_up BK174.out) hb)
               have n5_:=Aside0.mk (blk_below (blk_up BK182.out) hb)
               have n6_:=Aside0.mk (below_step (below_go HB.out) hb)
               clear HO178
               clear HO185
               clear HO191
               clear BK174
               clear BK182
               clear HB
               have HO178:=n0_
               have HO185:=n1_
               have HO191:=n2_
               have HO202:=n3_
               have BK174:=n4_
               have BK182:=n5_
               have HB:=n6_
               clear n0_ n1_ n2_ n3_ n4_ n5_ n6_
               clear hb ho276
               refine hK.out _ _ ⟨(blk_cell BK182.out 0).trans rfl,(blk_cell BK182.out 1).trans rfl,(blk_cell BK182.out 2).trans rfl,(blk_cell BK182.out 3).trans rfl⟩ (fun hHeld=>?_)
               clear hK K
               refine norm_ (a':=?_) ?_ ?_
               rotate_left
               ·show Act.put _ (some 42) _=_
                simp only [Act.put,List.setIfInBounds_toArray,List.set_cons_zero,List.set_cons_succ,i64_w,i32_w]
                rfl
               refine one_ (i:=1) (N:=some 38) #[true,true,true,false,true,true,false,false,false] rfl rfl (one_of HT_.out (by kernel_rfl)) (by decide) (fun K hK=>?_)
               refine Kd.R_lit_step k34 _ 34 ?hg (N:=38) ?hd (xs:=([] : List (S34))) (inner:=[]) (ok:=fun _=>True) (okp:=fun _=>True) ?hr ?hp (fun _ hk=>hk) trivial (Below.refl _ _) (Nat.le_refl _) (by simp) ?_;(case hd=>rfl);(case hg=>rfl);(case hr=>first|(go_simp;done)|(go_simp;rfl));(case hp=>exact (Reps.none _ _))
               intro v195 w277 ho278 hb hg_ hnew_
               clear hg_ hnew_
               (first|rw [← Ny194.out] at ho278|(simp only [Int.reduceToNat] at ho278;rw [← Ny194.out] at ho278))
               have n0_:=Aside0.mk (Kd.R_below (R_up HO178.out) hb)
               have n1_:=Aside0.mk (Kd.R_elder' (R_up HO185.out) (Kd.R_base ho278) hb)
               have n2_:=Aside0.mk (Kd.R_elder' (R_up HO191.out) (Kd.R_base ho278) hb)
               have n3_:=Aside0.mk (Kd.R_elder' (R_up HO202.out) (Kd.R_base ho278) hb)
               have n4_:=Aside0.mk (Kd.R_lower (Kd.R_new' (Kd.R_new' (Kd.R_new' ho278 (Kd.R_lt (R_up HO185.out))) (Kd.R_lt (R_up HO191.out))) (Kd.R_lt (R_up HO202.out))) (below_size (below_go HB.out)))
               have n5_:=Aside0.mk (blk_below (blk_up BK174.out) hb)
               have n6_:=Aside0.mk (blk_below (blk_up BK182.out) hb)
               have n7_:=Aside0.mk (below_step (below_go HB.out) hb)
               clear HO178
               clear HO185
               clear HO191
               clear HO202
               clear BK174
               clear BK182
               clear HB
               have HO178:=n0_
               have HO185:=n1_
               have HO191:=n2_
               have HO202:=n3_
               have HO196:=n4_
               have BK174:=n5_
               have BK182:=n6_
               have HB:=n7_
               clear n0_ n1_ n2_ n3_ n4_ n5_ n6_ n7_
               clear hb ho278
               refine hK.out _ _ ⟨(blk_cell BK182.out 0).trans rfl,(blk_cell BK182.out 1).trans rfl,(blk_cell BK182.out 2).trans rfl,(blk_cell BK182.out 3).trans rfl⟩ (fun hHeld=>?_)
               clear hK K
               refine norm_ (a':=?_) ?_ ?_
               rotate_left
               ·show Act.put _ (some 38) _=_
                simp only [Act.put,List.setIfInBounds_toArray,List.set_cons_zero,List.set_cons_succ,i64_w,i32_w]
                rfl
               refine one_ (i:=3) (N:=some 40) #[true,true,true,true,true,true,false,false,false] rfl rfl (one_of HT_.out (by kernel_rfl)) (by decide) (fun K hK=>?_)
               refine Kd.R_append_rows_step k34 (w0:=w) w.heap.size (by rfl) (.tmp 38) (.tmp 39) 26 34 (.agg #[(.int .i64 0),(.string ⟨#[]⟩)]) 24 rfl Try.underlying26 info34 rfl (by decide) (by omega) v195 y194 t183 _ _ _ (fun k_=>some k_≠(.slice Ao266 t183.length co266 : Value).ownBlock∧some k_≠(.slice (some ⟨go12,0,none⟩) y189.length co12 : Value).ownBlock∧some k_≠(v201 : Value).ownBlock) (fun _=>False) rfl rfl ?aO ?aR (fun _ _ h=>h) (fun _ h=>h.elim) ?aF ?aB ?aS ?aL ?_
               (case aR=>repeat (first|exact (Kd.R_reads' HO185.out).2.2|(with_reducible refine Kd.C_alloc ?_ _)|(with_reducible refine Kd.C_drewN ?_ _)|(with_reducible refine Kd.C_drew ?_)))
               (case aB=>exact (below_go HB.out))
               (case aF=>exact (fun k_ hk=>⟨Kd.fresh' (Kd.R_lt (R_up HO185.out)) k_ hk,Kd.fresh' (Kd.R_lt (R_up HO191.out)) k_ hk,Kd.fresh' (Kd.R_lt (R_up HO202.out)) k_ hk⟩))
               (case aO=>exact (by (with_reducible repeat (first|apply Kd.R_alloc|apply Kd.R_drewN|apply Kd.R_drew));exact Kd.R_mono HO196.out (fun _ hk=>⟨hk.1.1.2,⟨hk.1.2,hk.2⟩⟩)))
               (case aS=>exact (below_size (below_go HB.out)))
               (case aL=>have:=LMc14.out;omega)
               intro v198 w279 ho hb hg hat
               rw [← Ny197.out] at ho
               have n0_:=Aside0.mk (blk_grown (blk_up BK174.out) hg (Kd.R_ne HO196.out BK174.out (by decide)))
               have n1_:=Aside0.mk (Kd.R_over' (R_up HO178.out) (Kd.R_typed (R_up HO196.out)) (by decide) hg)
               have n2_:=Aside0.mk (blk_grown (blk_up BK182.out) hg (Kd.R_ne HO196.out BK182.out (by decide)))
               have n3_:=Aside0.mk (Kd.R_after (ok:=(fun k_=>some k_≠(.slice (some ⟨go12,0,none⟩) y189.length co12 : Value).ownBlock∧some k_≠(v201 : Value).ownBlock)) (by (with_reducible repeat (first|apply Kd.R_alloc|apply Kd.R_drewN|apply Kd.R_drew));exact Kd.R_mono HO185.out (fun _ hk=>⟨⟨hk.1.1.2,hk.1.2⟩,hk.2⟩)) hg hat)
               have n4_:=Aside0.mk (Kd.R_after (ok:=(fun k_=>some k_≠(.slice Ao266 t183.length co266 : Value).ownBlock∧some k_≠(v201 : Value).ownBlock)) (R_up HO191.out) hg hat)
               have n5_:=Aside0.mk (Kd.R_after (ok:=(fun k_=>some k_≠(.slice Ao266 t183.length co266 : Value).ownBlock∧some k_≠(.slice (some ⟨go12,0,none⟩) y189.length co12 : Value).ownBlock)) (by (with_reducible repeat (first|apply Kd.R_alloc|apply Kd.R_drewN|apply Kd.R_drew));exact Kd.R_mono HO202.out (fun _ hk=>⟨⟨hk.1.1.2,hk.1.2⟩,hk.2⟩)) hg hat)
               have n6_:=Aside0.mk (hb)
               have n7_:=Aside0.mk (ho)
               clear BK174
               clear HO178
               clear BK182
               clear HO185
               clear HO191
               clear HO202
               clear HB
               clear HO196
               have BK174:=n0_
               have HO178:=n1_
               have BK182:=n2_
               have HO185:=n3_
               have HO191:=n4_
               have HO202:=n5_
               have HB:=n6_
               have HO199:=n7_
               clear n0_ n1_ n2_ n3_ n4_ n5_ n6_ n7_
               clear ho hb hg hat
               refine hK.out _ _ ⟨(blk_cell BK182.out 0).trans rfl,(blk_cell BK182.out 1).trans rfl,(blk_cell BK182.out 2).trans rfl,(blk_cell BK182.out 3).trans rfl⟩ (fun hHeld=>?_)
               clear hK K
               refine norm_ (a':=?_) ?_ ?_
               rotate_left
               ·show Act.put _ (some 40) _=_
                simp only [Act.put,List.setIfInBounds_toArray,List.set_cons_zero,List.set_cons_succ,i64_w,i32_w]
                rfl
               exact norm_ (by simp only [putAll,Act.put,List.setIfInBounds_toArray,List.set_cons_zero,List.set_cons_succ]) (hCont (v195,v198,v201) _ ⟨hHeld,(R_up HO178.out),(by (with_reducible repeat (first|apply Kd.R_alloc|apply Kd.R_drewN|apply Kd.R_drew));exact Kd.R_mono HO185.out (fun _ hk=>⟨hk.1.1,⟨hk.2,hk.1.2⟩⟩)),(by (with_reducible repeat (first|apply Kd.R_alloc|apply Kd.R_drewN|apply Kd.R_drew));exact Kd.R_mono HO191.out (fun _ hk=>⟨hk.1.1,⟨hk.2,hk.1.2⟩⟩)),(R_up HO199.out),(by (with_reducible repeat (first|apply Kd.R_alloc|apply Kd.R_drewN|apply Kd.R_drew));exact Kd.R_mono HO202.out (fun _ hk=>⟨hk.1.1,⟨hk.1.2,hk.2⟩⟩)),(blk_up BK174.out),(blk_up BK182.out),(below_go HB.out)⟩)
             rintro ⟨v195,v198,v201⟩ w280 ⟨hS_,h0_,h1_,h2_,h3_,h4_,h5_,h6_,h7_⟩
             have n0_ : Aside0 (Kd.R (Kd.int .i64) 3 w280 w.heap.size (fun _=>True) (.slice Ao262 t176.length co262) t176):=⟨h0_⟩
             have n1_ : Aside0 (Kd.R k34 34 w280 w.heap.size (fun k_=>some k_≠(.slice (some ⟨go12,0,none⟩) y189.length co12 : Value).ownBlock∧some k_≠(v198 : Value).ownBlock∧some k_≠(v201 : Value).ownBlock) (.slice Ao266 t183.length co266) t183):=⟨h1_⟩
             have n2_ : Aside0 (Kd.R k34 34 w280 w.heap.size (fun k_=>some k_≠(.slice Ao266 t183.length co266 : Value).ownBlock∧some k_≠(v198 : Value).ownBlock∧some k_≠(v201 : Value).ownBlock) (.slice (some ⟨go12,0,none⟩) y189.length co12) y192):=⟨h2_⟩
             have n3_ : Aside0 (Kd.R k34 34 w280 w.heap.size (fun k_=>some k_≠(.slice Ao266 t183.length co266 : Value).ownBlock∧some k_≠(.slice (some ⟨go12,0,none⟩) y189.length co12 : Value).ownBlock∧some k_≠(v201 : Value).ownBlock) v198 y197):=⟨h3_⟩
             have n4_ : Aside0 (Kd.R k34 34 w280 w.heap.size (fun k_=>some k_≠(.slice Ao266 t183.length co266 : Value).ownBlock∧some k_≠(.slice (some ⟨go12,0,none⟩) y189.length co12 : Value).ownBlock∧some k_≠(v198 : Value).ownBlock) v201 y200):=⟨h4_⟩
             have n5_ : Aside0 (w280.heap[gb174]?=some (.cells #[.int .u8 a0_0,.int .u8 a0_1,.int .u8 a0_2,.int .u8 a0_3,.int .u8 a0_4,.int .u8 a0_5,.int .u8 a0_6,.int .u8 a0_7,.int .u8 a0_8,.int .u8 a0_9,.int .u8 a0_10,.int .u8 a0_11] 24 (0,0))):=⟨h5_⟩
             have n6_ : Aside0 (w280.heap[gb182]?=some (.cells #[.slice Ao262 t176.length co262,.int .i64 t179,.int .i64 t180,.int .i64 t181] 30 (0,0))):=⟨h6_⟩
             have n7_ : Aside0 (Below w.heap.size w w280):=⟨h7_⟩
             clear HO178
             clear HO185
             clear HO191
             clear BK174
             clear BK182
             clear HB
             clear h0_ h1_ h2_ h3_ h4_ h5_ h6_ h7_
             have HO178:=n0_
             have HO185:=n1_
             have HO191:=n2_
             have HO199:=n3_
             have HO202:=n4_
             have BK174:=n5_
             have BK182:=n6_
             have HB:=n7_
             clear n0_ n1_ n2_ n3_ n4_ n5_ n6_ n7_
             have hHeld : w280.cell? ⟨gb182,0,none⟩=some (.slice Ao262 t176.length co262)∧w280.cell? ⟨gb182,1,none⟩=some (.int .i64 t179)∧w280.cell? ⟨gb182,2,none⟩=some (.int .i64 t180)∧w280.cell? ⟨gb182,3,none⟩=some (.int .i64 t181):=hS_
             obtain ⟨Ao282,co282,eo282⟩:=Kd.R_slice HO202.out
             (first|subst eo282|(injection eo282 with f1_ f2_ f3_;have f4_:=f1_.symm;have f5_:=f3_.symm;clear f1_ f2_ f3_;subst f4_;subst f5_))
             refine norm_ (a':=?_) ?_ ?_
             rotate_left
             ·simp only [putAll,Act.put,List.setIfInBounds_toArray,List.set_cons_zero,List.set_cons_succ]
              rfl
             refine one_ (i:=6) (N:=some 43) #[true,true,true,true,true,true,true,false,false] rfl rfl (one_of HT_.out (by kernel_rfl)) (by decide) (fun K hK=>?_)
             refine Kd.R_append_rows_step k34 (w0:=w) w.heap.size (by rfl) (.tmp 40) (.tmp 42) 26 34 (.agg #[(.int .i64 0),(.string ⟨#[]⟩)]) 24 rfl Try.underlying26 info34 rfl (by decide) (by omega) v198 y197 y200 _ _ _ (fun k_=>some k_≠(.slice Ao266 t183.length co266 : Value).ownBlock∧some k_≠(.slice (some ⟨go12,0,none⟩) y189.length co12 : Value).ownBlock∧some k_≠(.slice Ao282 y200.length co282 : Value).ownBlock) (fun _=>False) rfl rfl ?aO ?aR (fun _ _ h=>h) (fun _ h=>h.elim) ?aF ?aB ?aS ?aL ?_
             (case aR=>repeat (first|exact (Kd.R_reads' HO202.out).2.2|(with_reducible refine Kd.C_alloc ?_ _)|(with_reducible refine Kd.C_drewN ?_ _)|(with_reducible refine Kd.C_drew ?_)))
             (case aB=>exact (below_go HB.out))
             (case aF=>exact (fun k_ hk=>⟨Kd.fresh' (Kd.R_lt (R_up HO185.out)) k_ hk,Kd.fresh' (Kd.R_lt (R_up HO191.out)) k_ hk,Kd.fresh' (Kd.R_lt (R_up HO202.out)) k_ hk⟩))
             (case aO=>exact (R_up HO199.out))
             (case aS=>exact (below_size (below_go HB.out)))
             (case aL=>have:=LMc15.out;omega)
             intro v204 w281 ho hb hg hat
             rw [← Ny203.out] at ho
             have n0_:=Aside0.mk (blk_grown (blk_up BK174.out) hg (Kd.R_ne HO199.out BK174.out (by decide)))
             have n1_:=Aside0.mk (Kd.R_over' (R_up HO178.out) (Kd.R_typed (R_up HO199.out)) (by decide) hg)
             have n2_:=Aside0.mk (blk_grown (blk_up BK182.out) hg (Kd.R_ne HO199.out BK182.out (by decide)))
             have n3_:=Aside0.mk (Kd.R_after (ok:=(fun k_=>some k_≠(.slice (some ⟨go12,0,none⟩) y189.length co12 : Value).ownBlock∧some k_≠(.slice Ao282 y200.length co282 : Value).ownBlock)) (by (with_reducible repeat (first|apply Kd.R_alloc|apply Kd.R_drewN|apply Kd.R_drew));exact Kd.R_mono HO185.out (fun _ hk=>⟨⟨hk.1,hk.2.2⟩,hk.2.1⟩)) hg hat)
             have n4_:=Aside0.mk (Kd.R_after (ok:=(fun k_=>some k_≠(.slice Ao266 t183.length co266 : Value).ownBlock∧some k_≠(.slice Ao282 y200.length co282 : Value).ownBlock)) (by (with_reducible repeat (first|apply Kd.R_alloc|apply Kd.R_drewN|apply Kd.R_drew));exact Kd.R_mono HO191.out (fun _ hk=>⟨⟨hk.1,hk.2.2⟩,hk.2.1⟩)) hg hat)
             have n5_:=Aside0.mk (Kd.R_after (ok:=(fun k_=>some k_≠(.slice Ao266 t183.length co266 : Value).ownBlock∧some k_≠(.slice (some ⟨go12,0,none⟩) y189.length co12 : Value).ownBlock)) (by (with_reducible repeat (first|apply Kd.R_alloc|apply Kd.R_drewN|apply Kd.R_drew));exact Kd.R_mono HO202.out (fun _ hk=>⟨⟨hk.1,hk.2.1⟩,hk.2.2⟩)) hg hat)
             have n6_:=Aside0.mk (hb)
             have n7_:=Aside0.mk (ho)
             clear BK174
             clear HO178
             clear BK182
             clear HO185
             clear HO191
             clear HO202
             clear HB
             clear HO199
             have BK174:=n0_
             have HO178:=n1_
             have BK182:=n2_
             have HO185:=n3_
             have HO191:=n4_
             have HO202:=n5_
             have HB:=n6_
             have HO205:=n7_
             clear n0_ n1_ n2_ n3_ n4_ n5_ n6_ n7_
             clear ho hb hg hat
             obtain ⟨Ao283,co283,eo283⟩:=Kd.R_slice HO205.out
             (first|subst eo283|(injection eo283 with f1_ f2_ f3_;have f4_:=f1_.symm;have f5_:=f3_.symm;clear f1_ f2_ f3_;subst f4_;subst f5_))
             refine hK.out _ _ ⟨(blk_cell BK182.out 0).trans rfl,(blk_cell BK182.out 1).trans rfl,(blk_cell BK182.out 2).trans rfl,(blk_cell BK182.out 3).trans rfl⟩ (fun hHeld=>?_)
             clear hK K
             refine norm_ (a':=?_) ?_ ?_
             rotate_left
             ·show Act.put _ (some 43) _=_
              simp only [Act.put,List.setIfInBounds_toArray,List.set_cons_zero,List.set_cons_succ,i64_w,i32_w]
              rfl
             refine one_ (i:=7) (N:=some 44) #[true,true,true,true,true,true,true,true,false] rfl rfl (one_of HT_.out (by kernel_rfl)) (by decide) (fun K hK=>?_)
             refine goes_ Try.func12 (by kernel_rfl) rfl #[.agg #[.slice Ao262 t176.length co262,.int .i64 t179,.int .i64 t180,.int .i64 t181],.slice Ao283 y203.length co283] (by rfl) rfl rfl (by (try simp only [List.map_toArray,List.map_cons,List.map_nil]);first|done|rfl|(simp only [List.length_drop,List.length_take];rfl)) ?_
             with_reducible refine (schema_Row.calls _ _ t176 t179 t180 t181 _ _ y203 t206 _ ?side1 ?side2 ?side3 ?side4 A16.out).mono ?_
             (case side1=>repeat (first|exact (Kd.R_reads' HO178.out).2.2|(with_reducible refine Kd.C_alloc ?_ _)|(with_reducible refine Kd.C_drewN ?_ _)|(with_reducible refine Kd.C_drew ?_)))
             (case side2=>exact (Kd.R_reads' HO178.out).2.1)
             (case side3=>repeat (first|exact (Kd.R_reads' HO205.out).2.2|(with_reducible refine Kd.C_alloc ?_ _)|(with_reducible refine Kd.C_drewN ?_ _)|(with_reducible refine Kd.C_drew ?_)))
             (case side4=>exact (Kd.R_reads' HO205.out).2.1)
             rintro e w284 ⟨rfl,hb⟩
             refine ⟨_,rfl,?_⟩
             have n0_:=Aside0.mk (Kd.R_below (R_up HO178.out) hb)
             have n1_:=Aside0.mk (Kd.R_below (R_up HO185.out) hb)
             have n2_:=Aside0.mk (Kd.R_below (R_up HO191.out) hb)
             have n3_:=Aside0.mk (Kd.R_below (R_up HO202.out) hb)
             have n4_:=Aside0.mk (Kd.R_below (R_up HO205.out) hb)
             have n5_:=Aside0.mk (blk_below (blk_up BK174.out) hb)
             have n6_:=Aside0.mk (blk_below (blk_up BK182.out) hb)
             have n7_:=Aside0.mk (below_step (below_go HB.out) hb)
             clear HO178
             clear HO185
             clear HO191
             clear HO202
             clear HO205
             clear BK174
             clear BK182
             clear HB
             have HO178:=n0_
             have HO185:=n1_
             have HO191:=n2_
             have HO202:=n3_
             have HO205:=n4_
             have BK174:=n5_
             have BK182:=n6_
             have HB:=n7_
             clear n0_ n1_ n2_ n3_ n4_ n5_ n6_ n7_
             (try clear hb)
             (try clear hb2)
             (try clear hk)
             (try clear hi)
             refine hK.out _ _ ⟨(blk_cell BK182.out 0).trans rfl,(blk_cell BK182.out 1).trans rfl,(blk_cell BK182.out 2).trans rfl,(blk_cell BK182.out 3).trans rfl⟩ (fun hHeld=>?_)
             clear hK K
             refine norm_ (a':=?_) ?_ ?_
             rotate_left
             ·show Act.put _ (some 44) _=_
              simp only [Act.put,List.setIfInBounds_toArray,List.set_cons_zero,List.set_cons_succ,i64_w,i32_w]
              rfl
             refine pure_ (i:=8) (N:=some 13) (v:=?_) (a':=?_) #[true,true,true,true,true,true,true,true,true] rfl rfl (any_of HT_.out (by kernel_rfl)) (fun _ _ _ h=>h) (Or.inl ⟨by rfl,?_⟩) ?_ ?_
             rotate_left;(intro w';go_simp;with_reducible rfl);rotate_left;(simp only [Act.put,List.setIfInBounds_toArray,List.set_cons_zero,List.set_cons_succ,i64_w,i32_w];rfl)
             refine done_ (done_of HT_.out (by kernel_rfl)) ?_
             (try clear hHeld)
             try go_wp2
             have n0_:=Aside0.mk (Kd.R_drew HO178.out)
             have n1_:=Aside0.mk (Kd.R_drew HO185.out)
             have n2_:=Aside0.mk (Kd.R_drew HO191.out)
             have n3_:=Aside0.mk (Kd.R_drew HO202.out)
             have n4_:=Aside0.mk (Kd.R_drew HO205.out)
             have n5_:=Aside0.mk (blk_drew BK174.out)
             have n6_:=Aside0.mk (blk_drew BK182.out)
             have n7_:=Aside0.mk (below_drew1 HB.out)
             clear HO178
             clear HO185
             clear HO191
             clear HO202
             clear HO205
             clear BK174
             clear BK182
             clear HB
             have HO178:=n0_
             have HO185:=n1_
             have HO191:=n2_
             have HO202:=n3_
             have HO205:=n4_
             have BK174:=n5_
             have BK182:=n6_
             have HB:=n7_
             clear n0_ n1_ n2_ n3_ n4_ n5_ n6_ n7_
             have q286 : ((ji17) : Int)≤((t183.length : Int) : Int):=of_decide_eq_true (by first|(with_reducible assumption)|assumption)
             obtain ⟨i0286,hi0286,_,hsz286,_⟩:=info_parts info34
             have hroom286 : t183.length≤co266:=(Kd.R_reads' HO185.out).2.1
             have hC286 : Kd.F k34 _ _ Ao266 t183.length t183:=(Kd.V_at (base:=w.heap.size) (Kd.R_V (Kd.R_types (Kd.R_types (Kd.R_apart' (HO185.out) (Kd.R_typed HO178.out) (by decide)) BK174.out (by decide)) BK182.out (by decide)))).2.2
             have hcut286:=cut_to (P:=Try.prog) 26 34 .i64 Try.underlying26 hi0286 Ao266 t183.length co266 (ji17) (of_decide_eq_true (by first|(with_reducible assumption)|assumption)) q286 hroom286
             have hr286:=Kd.F_take (m:=((ji17) : Int).toNat) hC286 (by omega)
             have hy286 : y207.length=((ji17) : Int).toNat:=(by rw [Ny207.out,List.length_take];omega)
             rw [← Ny207.out] at hr286
             rw [← hy286] at hcut286
             have HO211:=Aside0.mk (show Kd.V k34 34 _ w.heap.size _ (.slice Ao266 y207.length co266) y207 from Kd.V_mk (by omega) hr286)
             have HC211:=Aside0.mk (show y207.length≤co266 from by omega)
             clear hr286 hC286 hroom286 hi0286 hsz286
             have KY286:=Aside0.mk hy286
             clear hy286
             replace q286:=eq_true q286
             refine start_ (n:=8) (S:=fun w'=>w'.cell? ⟨gb182,0,none⟩=some (.slice Ao262 t176.length co262)∧w'.cell? ⟨gb182,1,none⟩=some (.int .i64 t179)∧w'.cell? ⟨gb182,2,none⟩=some (.int .i64 t180)∧w'.cell? ⟨gb182,3,none⟩=some (.int .i64 t181)) (ds:=[]) #[false,false,false,false,false,false,false,false] (by kernel_rfl) rfl rfl ⟨(blk_cell BK182.out 0).trans rfl,(blk_cell BK182.out 1).trans rfl,(blk_cell BK182.out 2).trans rfl,(blk_cell BK182.out 3).trans rfl⟩ (fun hHeld=>?_);refine with_tabW thresherlaw04_SchemaRows.tab9 thresherlaw04_SchemaRows.bits9 (fun HT_ HW_=>?_)
             generalize w284.drew=w285 at HO178 HO185 HO191 HO202 HO205 BK174 BK182 HB HO211 hHeld ⊢
             refine pure_ (i:=1) (N:=some 46) (v:=?_) (a':=?_) #[false,true,false,false,false,false,false,false] rfl rfl (any_of HT_.out (by kernel_rfl)) (fun _ _ _ h=>h) (Or.inl ⟨by rfl,?_⟩) ?_ ?_
             rotate_left;(intro w';go_simp;with_reducible rfl);rotate_left;(simp only [Act.put,List.setIfInBounds_toArray,List.set_cons_zero,List.set_cons_succ,i64_w,i32_w];rfl)
             refine pure_ (i:=2) (N:=some 47) (v:=?_) (a':=?_) #[false,true,true,false,false,false,false,false] rfl rfl (any_of HT_.out (by kernel_rfl)) (fun _ _ _ h=>h) (Or.inl ⟨by rfl,?_⟩) ?_ ?_
             rotate_left;(intro w';go_simp;with_reducible rfl);rotate_left;(simp only [Act.put,List.setIfInBounds_toArray,List.set_cons_zero,List.set_cons_succ,i64_w,i32_w];rfl)
             refine pure_ (i:=3) (N:=some 48) (v:=?_) (a':=?_) #[false,true,true,true,false,false,false,false] rfl rfl (any_of HT_.out (by kernel_rfl)) (fun _ _ _ h=>h) (Or.inl ⟨by rfl,?_⟩) ?_ ?_
             rotate_left;(intro w';go_simp;with_reducible rfl);rotate_left;(simp only [Act.put,List.setIfInBounds_toArray,List.set_cons_zero,List.set_cons_succ,i64_w,i32_w];rfl)
             refine pure_ (i:=4) (N:=some 49) (v:=?_) (a':=?_) #[false,true,true,true,true,false,false,false] rfl rfl (any_of HT_.out (by kernel_rfl)) (fun _ _ _ h=>h) (Or.inl ⟨by rfl,?_⟩) ?_ ?_
             rotate_left;(intro w';go_simp;with_reducible rfl);rotate_left;(simp only [Act.put,List.setIfInBounds_toArray,List.set_cons_zero,List.set_cons_succ,i64_w,i32_w];rfl)
             refine pure_ (i:=5) (N:=some 50) (v:=?_) (a':=?_) #[false,true,true,true,true,true,false,false] rfl rfl (any_of HT_.out (by kernel_rfl)) (fun _ _ _ h=>h) (Or.inl ⟨by rfl,?_⟩) ?_ ?_
             rotate_left;(intro w';go_simp;with_reducible rfl);rotate_left;(simp only [Act.put,List.setIfInBounds_toArray,List.set_cons_zero,List.set_cons_succ,i64_w,i32_w];rfl)
             refine take_ (i:=0) (N:=some 45) (v:=?_) (a':=?_) #[true,true,true,true,true,true,false,false] rfl rfl (take_ofW HT_.out HW_.out (by kernel_rfl)) (fun _ _ _ h=>h) (Or.inl ⟨by rfl,?_⟩) hHeld ?_ ?_
             rotate_left;(rintro w' ⟨s0,s1,s2,s3⟩;go_simp;with_reducible rfl);rotate_left;(simp only [Act.put,List.setIfInBounds_toArray,List.set_cons_zero,List.set_cons_succ,i64_w,i32_w];rfl)
             refine one_ (i:=6) (N:=some 51) #[true,true,true,true,true,true,true,false] rfl rfl (one_of HT_.out (by kernel_rfl)) (by decide) (fun K hK=>?_)
             refine goes_ Try.func12 (by kernel_rfl) rfl #[.agg #[.slice Ao262 t176.length co262,.int .i64 t179,.int .i64 t180,.int .i64 t181],.slice Ao266 y207.length co266] (by rfl) rfl rfl (by (try simp only [List.map_toArray,List.map_cons,List.map_nil]);first|done|rfl|(simp only [List.length_drop,List.length_take];rfl)) ?_
             with_reducible refine (schema_Row.calls _ _ t176 t179 t180 t181 _ _ y207 t212 _ ?side1 ?side2 ?side3 ?side4 A20.out).mono ?_
             (case side1=>repeat (first|exact (Kd.R_reads' HO178.out).2.2|(with_reducible refine Kd.C_alloc ?_ _)|(with_reducible refine Kd.C_drewN ?_ _)|(with_reducible refine Kd.C_drew ?_)))
             (case side2=>exact (Kd.R_reads' HO178.out).2.1)
             (case side3=>repeat (first|exact (Kd.V_reads' HO211.out).2.2|(with_reducible refine Kd.C_alloc ?_ _)|(with_reducible refine Kd.C_drewN ?_ _)|(with_reducible refine Kd.C_drew ?_)))
             (case side4=>exact (Kd.V_reads' HO211.out).2.1)
             rintro e w287 ⟨rfl,hb⟩
             refine ⟨_,rfl,?_⟩
             have n0_:=Aside0.mk (Kd.R_below (R_up HO178.out) hb)
             have n1_:=Aside0.mk (Kd.R_below (R_up HO185.out) hb)
             have n2_:=Aside0.mk (Kd.R_below (R_up HO191.out) hb)
             have n3_:=Aside0.mk (Kd.R_below (R_up HO202.out) hb)
             have n4_:=Aside0.mk (Kd.R_below (R_up HO205.out) hb)
             have n5_:=Aside0.mk (Kd.V_below (V_up HO211.out) hb)
             have n6_:=Aside0.mk (blk_below (blk_up BK174.out) hb)
             have n7_:=Aside0.mk (blk_below (blk_up BK182.out) hb)
             have n8_:=Aside0.mk (below_step (below_go HB.out) hb)
             clear HO178
             clear HO185
             clear HO191
             clear HO202
             clear HO205
             clear HO211
             clear BK174
             clear BK182
             clear HB
             have HO178:=n0_
             have HO185:=n1_
             have HO191:=n2_
             have HO202:=n3_
             have HO205:=n4_
             have HO211:=n5_
             have BK174:=n6_
             have BK182:=n7_
             have HB:=n8_
             clear n0_ n1_ n2_ n3_ n4_ n5_ n6_ n7_ n8_
             (try clear hb)
             (try clear hb2)
             (try clear hk)
             (try clear hi)
             refine hK.out _ _ ⟨(blk_cell BK182.out 0).trans rfl,(blk_cell BK182.out 1).trans rfl,(blk_cell BK182.out 2).trans rfl,(blk_cell BK182.out 3).trans rfl⟩ (fun hHeld=>?_)
             clear hK K
             refine norm_ (a':=?_) ?_ ?_
             rotate_left
             ·show Act.put _ (some 51) _=_
              simp only [Act.put,List.setIfInBounds_toArray,List.set_cons_zero,List.set_cons_succ,i64_w,i32_w]
              rfl
             refine pure_ (i:=7) (N:=some 14) (v:=?_) (a':=?_) #[true,true,true,true,true,true,true,true] rfl rfl (any_of HT_.out (by kernel_rfl)) (fun _ _ _ h=>h) (Or.inl ⟨by rfl,?_⟩) ?_ ?_
             rotate_left;(intro w';go_simp;with_reducible rfl);rotate_left;(simp only [Act.put,List.setIfInBounds_toArray,List.set_cons_zero,List.set_cons_succ,i64_w,i32_w];rfl)
             refine done_ (done_of HT_.out (by kernel_rfl)) ?_
             (try clear hHeld)
             have hcz288_0 : w287.cell? ⟨gb182,0,none⟩=some (.slice Ao262 t176.length co262):=(blk_cell BK182.out 0).trans rfl
             have hcz288_1 : w287.cell? ⟨gb182,1,none⟩=some (.int .i64 t179):=(blk_cell BK182.out 1).trans rfl
             have hcz288_2 : w287.cell? ⟨gb182,2,none⟩=some (.int .i64 t180):=(blk_cell BK182.out 2).trans rfl
             have hcz288_3 : w287.cell? ⟨gb182,3,none⟩=some (.int .i64 t181):=(blk_cell BK182.out 3).trans rfl
             have hfz288_0:=blk_frozen BK182.out 0
             have hfz288_1:=blk_frozen BK182.out 1
             have hfz288_2:=blk_frozen BK182.out 2
             have hfz288_3:=blk_frozen BK182.out 3
             try go_wp2_with (first|((with_reducible refine gate_callee (f:=12) rfl ?_);refine goesL_ (some 54) rfl rfl Try.func12 (by kernel_rfl) rfl #[.agg #[.slice Ao262 t176.length co262,.int .i64 t179,.int .i64 t180,.int .i64 t181],.slice (some ⟨go12,0,none⟩) y192.length co12] rfl (by (try simp only [List.map_toArray,List.map_cons,List.map_nil]);first|done|(rw [show y192.length=y189.length from (Kd.R_reads' HO191.out).1.symm] <;> rfl)|rfl|(simp only [List.length_drop,List.length_take];rfl)) ?_;(with_reducible refine (schema_Row.calls _ _ t176 t179 t180 t181 _ _ y192 t213 _ ?side1 ?side2 ?side3 ?side4 A21.out).mono ?_);(case side1=>repeat (first|exact (Kd.R_reads' HO178.out).2.2|(with_reducible refine Kd.C_alloc ?_ _)|(with_reducible refine Kd.C_drewN ?_ _)|(with_reducible refine Kd.C_drew ?_)));(case side2=>exact (Kd.R_reads' HO178.out).2.1);(case side3=>repeat (first|exact (Kd.R_reads' HO191.out).2.2|(with_reducible refine Kd.C_alloc ?_ _)|(with_reducible refine Kd.C_drewN ?_ _)|(with_reducible refine Kd.C_drew ?_)));(case side4=>rw [show y192.length=y189.length from (Kd.R_reads' HO191.out).1.symm];exact (Kd.R_reads' HO191.out).2.1);rintro e w289 ⟨rfl,hb⟩;refine ⟨_,rfl,?_⟩;have n0_:=Aside0.mk (Kd.R_below (R_up HO178.out) hb);have n1_:=Aside0.mk (Kd.R_below (R_up HO185.out) hb);have n2_:=Aside0.mk (Kd.R_below (R_up HO191.out) hb);have n3_:=Aside0.mk (Kd.R_below (R_up HO202.out) hb);have n4_:=Aside0.mk (Kd.R_below (R_up HO205.out) hb);have n5_:=Aside0.mk (Kd.V_below (V_up HO211.out) hb);have n6_:=Aside0.mk (blk_below (blk_up BK174.out) hb);have n7_:=Aside0.mk (blk_below (blk_up BK182.out) hb);have n8_:=Aside0.mk (below_step (below_go HB.out) hb);clear HO178;clear HO185;clear HO191;clear HO202;clear HO205;clear HO211;clear BK174;clear BK182;clear HB;have HO178:=n0_;have HO185:=n1_;have HO191:=n2_;have HO202:=n3_;have HO205:=n4_;have HO211:=n5_;have BK174:=n6_;have BK182:=n7_;have HB:=n8_;clear n0_ n1_ n2_ n3_ n4_ n5_ n6_ n7_ n8_;(try clear hb);(try clear hb2);(try clear hk);(try clear hi)))
             go_ret
             exact ⟨by first|rfl|(simp [errW_none,errW_some] <;> rfl)|(simp only [← hji9,← hji17];first|rfl|(simp [errW_none,errW_some] <;> rfl))|(simp [*,errW_none,errW_some] <;> rfl),by repeat (first|(with_reducible first|exact HB.out|apply below_alloc|apply pw_below_drewN|apply below_drew1|refine below_set ?_ GE174.out|refine below_set ?_ GE182.out)|exact HB.out)⟩
           ·replace c22:=Bool.eq_false_iff.mpr c22
            subst c22
            have H1 : (some false)=some r:=by rw [if_neg (show ¬ (false=true) by decide)] at H;exact H
            clear H
            have H:=H1
            clear H1
            obtain rfl:=Option.some.inj H
            go_enter Try.func3,Try.ntmps3
            try go_wp2_with (first|((with_reducible refine gate_dst (N:=3) rfl ?_);(try (refine gate_guard (by rfl) ?_;dsimp only));refine box_event ?hg (N:=3) ?hd (cs:=#[.int .u8 a0_0,.int .u8 a0_1,.int .u8 a0_2,.int .u8 a0_3,.int .u8 a0_4,.int .u8 a0_5,.int .u8 a0_6,.int .u8 a0_7,.int .u8 a0_8,.int .u8 a0_9,.int .u8 a0_10,.int .u8 a0_11]) (t:=24) ?hr ?_;(case hd=>rfl);(case hg=>rfl);(case hr=>first|(go_simp;done)|(go_simp;rfl));intro gb174 hg w290 hbox hb;have n0_:=Aside0.mk (below_step (below_up HB.out) hb);have n1_:=Aside0.mk (hbox);have n2_:=Aside0.mk ((by rw [hg];exact (below_size (below_up HB.out)) : w.heap.size≤gb174));have n3_:=Aside0.mk ((by rw [hg];exact (below_size (below_up HB.out)) : w.heap.size≤gb174));clear HB;have HB:=n0_;have BK174:=n1_;have GW174:=n2_;have GE174:=n3_;clear n0_ n1_ n2_ n3_;clear hb hbox hg)|((with_reducible refine gate_callee (f:=9) rfl ?_);refine goesL_ (some 16) rfl rfl Try.func9 (by kernel_rfl) rfl #[] rfl (by (try simp only [List.map_toArray,List.map_cons,List.map_nil]);first|done|rfl|(simp only [List.length_drop,List.length_take];rfl)) ?_;(with_reducible refine (thresherlaw04_shown.calls k  false _ A4.out).mono ?_);rintro e w291 ⟨rfl,hb⟩;refine ⟨_,rfl,?_⟩;have n0_:=Aside0.mk (blk_below (blk_up BK174.out) hb);have n1_:=Aside0.mk (below_step (below_go HB.out) hb);clear BK174;clear HB;have BK174:=n0_;have HB:=n1_;clear n0_ n1_;(try clear hb);(try clear hb2);(try clear hk);(try clear hi);have hcz292_0 : w291.cell? ⟨gb174,0,none⟩=some (.int .u8 a0_0):=(blk_cell BK174.out 0).trans rfl;have hcz292_1 : w291.cell? ⟨gb174,1,none⟩=some (.int .u8 a0_1):=(blk_cell BK174.out 1).trans rfl;have hcz292_2 : w291.cell? ⟨gb174,2,none⟩=some (.int .u8 a0_2):=(blk_cell BK174.out 2).trans rfl;have hcz292_3 : w291.cell? ⟨gb174,3,none⟩=some (.int .u8 a0_3):=(blk_cell BK174.out 3).trans rfl;have hcz292_4 : w291.cell? ⟨gb174,4,none⟩=some (.int .u8 a0_4):=(blk_cell BK174.out 4).trans rfl;have hcz292_5 : w291.cell? ⟨gb174,5,none⟩=some (.int .u8 a0_5):=(blk_cell BK174.out 5).trans rfl;have hcz292_6 : w291.cell? ⟨gb174,6,none⟩=some (.int .u8 a0_6):=(blk_cell BK174.out 6).trans rfl;have hcz292_7 : w291.cell? ⟨gb174,7,none⟩=some (.int .u8 a0_7):=(blk_cell BK174.out 7).trans rfl;have hcz292_8 : w291.cell? ⟨gb174,8,none⟩=some (.int .u8 a0_8):=(blk_cell BK174.out 8).trans rfl;have hcz292_9 : w291.cell? ⟨gb174,9,none⟩=some (.int .u8 a0_9):=(blk_cell BK174.out 9).trans rfl;have hcz292_10 : w291.cell? ⟨gb174,10,none⟩=some (.int .u8 a0_10):=(blk_cell BK174.out 10).trans rfl;have hcz292_11 : w291.cell? ⟨gb174,11,none⟩=some (.int .u8 a0_11):=(blk_cell BK174.out 11).trans rfl;have hfz292_0:=blk_frozen BK174.out 0;have hfz292_1:=blk_frozen BK174.out 1;have hfz292_2:=blk_frozen BK174.out 2;have hfz292_3:=blk_frozen BK174.out 3;have hfz292_4:=blk_frozen BK174.out 4;have hfz292_5:=blk_frozen BK174.out 5;have hfz292_6:=blk_frozen BK174.out 6;have hfz292_7:=blk_frozen BK174.out 7;have hfz292_8:=blk_frozen BK174.out 8;have hfz292_9:=blk_frozen BK174.out 9;have hfz292_10:=blk_frozen BK174.out 10;have hfz292_11:=blk_frozen BK174.out 11)|((with_reducible refine gate_callee (f:=10) rfl ?_);refine goesL_ (some 18) rfl rfl Try.func10 (by kernel_rfl) rfl #[.agg #[.int .u8 a0_0,.int .u8 a0_1,.int .u8 a0_2,.int .u8 a0_3,.int .u8 a0_4,.int .u8 a0_5,.int .u8 a0_6,.int .u8 a0_7,.int .u8 a0_8,.int .u8 a0_9,.int .u8 a0_10,.int .u8 a0_11]] rfl (by (try simp only [List.map_toArray,List.map_cons,List.map_nil]);first|done|rfl|(simp only [List.length_drop,List.length_take];rfl)) ?_;(with_reducible refine (thresherlaw04_made.calls k a0_0 a0_1 a0_2 a0_3 a0_4 a0_5 a0_6 a0_7 a0_8 a0_9 a0_10 a0_11 t176 t179 t180 t181 _ A5.out).mono ?_);rintro e w293 ⟨v177,rfl,ho0,hb⟩;refine ⟨_,rfl,?_⟩;have n0_:=Aside0.mk (Kd.R_lower ho0 (below_size (below_go HB.out)));have n1_:=Aside0.mk (blk_below (blk_up BK174.out) hb);have n2_:=Aside0.mk (below_step (below_go HB.out) hb);clear BK174;clear HB;have HO178:=n0_;have BK174:=n1_;have HB:=n2_;clear n0_ n1_ n2_;(try clear hb);(try clear hb2);(try clear hk);(try clear hi);(try clear ho0))|((with_reducible refine gate_dst (N:=8) rfl ?_);(try (refine gate_guard (by rfl) ?_;dsimp only));refine box_event ?hg (N:=8) ?hd (cs:=#[.slice none 0 0,.int .i64 0,.int .i64 0,.int .i64 0]) (t:=30) ?hr ?_;(case hd=>rfl);(case hg=>rfl);(case hr=>first|(go_simp;done)|(go_simp;rfl));intro gb182 hg w294 hbox hb;have n0_:=Aside0.mk (Kd.R_below (R_up HO178.out) hb);have n1_:=Aside0.mk (blk_below (blk_up BK174.out) hb);have n2_:=Aside0.mk (below_step (below_go HB.out) hb);have n3_:=Aside0.mk (hbox);have n4_:=Aside0.mk ((by rw [hg];exact (below_size (below_go HB.out)) : w.heap.size≤gb182));have n5_:=Aside0.mk ((by rw [hg];exact (below_size (below_go HB.out)) : w.heap.size≤gb182));have n6_:=Aside0.mk ((by rw [hg];exact Nat.ne_of_lt (blk_lt (blk_up BK174.out)) : gb174≠gb182));have n7_:=Aside0.mk ((by rw [hg];exact Nat.ne_of_gt (blk_lt (blk_up BK174.out)) : gb182≠gb174));clear HO178;clear BK174;clear HB;have HO178:=n0_;have BK174:=n1_;have HB:=n2_;have BK182:=n3_;have GW182:=n4_;have GE182:=n5_;have NB174_182:=n6_;have NB182_174:=n7_;clear n0_ n1_ n2_ n3_ n4_ n5_ n6_ n7_;clear hb hbox hg;obtain ⟨Ao295,co295,eo295⟩:=Kd.R_slice HO178.out;subst eo295;have hnb296:=NB182_174.out;have hnc296:=NB174_182.out;have hcz297_0 : w294.cell? ⟨gb182,0,none⟩=some (.slice none 0 0):=(blk_cell BK182.out 0).trans rfl;have hcz297_1 : w294.cell? ⟨gb182,1,none⟩=some (.int .i64 0):=(blk_cell BK182.out 1).trans rfl;have hcz297_2 : w294.cell? ⟨gb182,2,none⟩=some (.int .i64 0):=(blk_cell BK182.out 2).trans rfl;have hcz297_3 : w294.cell? ⟨gb182,3,none⟩=some (.int .i64 0):=(blk_cell BK182.out 3).trans rfl;have hfz297_0:=blk_frozen BK182.out 0;have hfz297_1:=blk_frozen BK182.out 1;have hfz297_2:=blk_frozen BK182.out 2;have hfz297_3:=blk_frozen BK182.out 3)|((with_reducible refine gate_callee (f:=11) rfl ?_);refine goesL_ (some 21) rfl rfl Try.func11 (by kernel_rfl) rfl #[.agg #[.slice Ao295 t176.length co295,.int .i64 t179,.int .i64 t180,.int .i64 t181],.slice A1 l1.length c1] rfl (by (try simp only [List.map_toArray,List.map_cons,List.map_nil]);first|done|rfl|(simp only [List.length_drop,List.length_take];rfl)) ?_;(with_reducible refine (thresherref04_Fit.calls k _ _ t176 t179 t180 t181 _ _ l1 t183 _ ?side1 ?side2 ?side3 ?side4 A6.out).mono ?_);(case side1=>refine (Kd.R_reads' (e:=3) (base:=w.heap.size) (ok:=fun k_=>True) (n:=t176.length) (c:=co295) ?_).2.2;exact (by (with_reducible repeat (first|apply Kd.R_alloc|apply Kd.R_drewN|apply Kd.R_drew));exact (Kd.R_mono (Kd.R_far (p:=⟨gb182,3,none⟩) (Kd.R_far (p:=⟨gb182,2,none⟩) (Kd.R_far (p:=⟨gb182,1,none⟩) (Kd.R_far (p:=⟨gb182,0,none⟩) (Kd.R_types HO178.out BK182.out (by decide)) (fun _ hk=>hk.2) (.slice Ao295 t176.length co295)) (fun _ hk=>hk.2) (.int .i64 t179)) (fun _ hk=>hk.2) (.int .i64 t180)) (fun _ hk=>hk.2) (.int .i64 t181)) (fun _ h_=>h_.1))));(case side2=>exact (Kd.R_reads' HO178.out).2.1);(case side3=>exact Kd.C_below HR1.out (below_go HB.out));(case side4=>exact HC1.out);rintro e w298 ⟨v184,rfl,ho0,hb⟩;refine ⟨_,rfl,?_⟩;have n0_:=Aside0.mk (Kd.R_below (by (with_reducible repeat (first|apply Kd.R_alloc|apply Kd.R_drewN|apply Kd.R_drew));exact (Kd.R_mono (Kd.R_far (p:=⟨gb182,3,none⟩) (Kd.R_far (p:=⟨gb182,2,none⟩) (Kd.R_far (p:=⟨gb182,1,none⟩) (Kd.R_far (p:=⟨gb182,0,none⟩) (Kd.R_types HO178.out BK182.out (by decide)) (fun _ hk=>hk.2) (.slice Ao295 t176.length co295)) (fun _ hk=>hk.2) (.int .i64 t179)) (fun _ hk=>hk.2) (.int .i64 t180)) (fun _ hk=>hk.2) (.int .i64 t181)) (fun _ h_=>h_.1))) hb);have n1_:=Aside0.mk (Kd.R_lower ho0 (below_size (below_go HB.out)));have n2_:=Aside0.mk (blk_below (g:=gb174) (o:=.cells #[.int .u8 a0_0,.int .u8 a0_1,.int .u8 a0_2,.int .u8 a0_3,.int .u8 a0_4,.int .u8 a0_5,.int .u8 a0_6,.int .u8 a0_7,.int .u8 a0_8,.int .u8 a0_9,.int .u8 a0_10,.int .u8 a0_11] 24 (0,0)) (by (with_reducible repeat (first|refine blk_drewN ?_ _|refine blk_drew ?_|refine blk_alloc ?_ _));refine blk_far ?_ NB174_182.out _;(with_reducible repeat (first|refine blk_drewN ?_ _|refine blk_drew ?_|refine blk_alloc ?_ _));refine blk_far ?_ NB174_182.out _;(with_reducible repeat (first|refine blk_drewN ?_ _|refine blk_drew ?_|refine blk_alloc ?_ _));refine blk_far ?_ NB174_182.out _;(with_reducible repeat (first|refine blk_drewN ?_ _|refine blk_drew ?_|refine blk_alloc ?_ _));refine blk_far ?_ NB174_182.out _;(with_reducible repeat (first|refine blk_drewN ?_ _|refine blk_drew ?_|refine blk_alloc ?_ _));exact BK174.out) hb);have n3_:=Aside0.mk (blk_below (g:=gb182) (o:=.cells #[.slice Ao295 t176.length co295,.int .i64 t179,.int .i64 t180,.int .i64 t181] 30 (0,0)) (by (with_reducible repeat (first|refine blk_drewN ?_ _|refine blk_drew ?_|refine blk_alloc ?_ _));refine blk_put (cs:=#[.slice Ao295 t176.length co295,.int .i64 t179,.int .i64 t180,.int .i64 0]) ?_ 3 _ rfl;(with_reducible repeat (first|refine blk_drewN ?_ _|refine blk_drew ?_|refine blk_alloc ?_ _));refine blk_put (cs:=#[.slice Ao295 t176.length co295,.int .i64 t179,.int .i64 0,.int .i64 0]) ?_ 2 _ rfl;(with_reducible repeat (first|refine blk_drewN ?_ _|refine blk_drew ?_|refine blk_alloc ?_ _));refine blk_put (cs:=#[.slice Ao295 t176.length co295,.int .i64 0,.int .i64 0,.int .i64 0]) ?_ 1 _ rfl;(with_reducible repeat (first|refine blk_drewN ?_ _|refine blk_drew ?_|refine blk_alloc ?_ _));refine blk_put (cs:=#[.slice none 0 0,.int .i64 0,.int .i64 0,.int .i64 0]) ?_ 0 _ rfl;(with_reducible repeat (first|refine blk_drewN ?_ _|refine blk_drew ?_|refine blk_alloc ?_ _));exact BK182.out) hb);have n4_:=Aside0.mk (below_step (below_go HB.out) hb);clear HO178;clear BK174;clear BK182;clear HB;have HO178:=n0_;have HO185:=n1_;have BK174:=n2_;have BK182:=n3_;have HB:=n4_;clear n0_ n1_ n2_ n3_ n4_;(try clear hb);(try clear hb2);(try clear hk);(try clear hi);(try clear ho0);obtain ⟨Ao299,co299,eo299⟩:=Kd.R_slice HO185.out;subst eo299)|((with_reducible refine gate_dst (N:=27) rfl ?_);(try (refine gate_guard (by rfl) ?_;dsimp only));refine Kd.R_lit k34 _ 34 ?hg (N:=27) ?hd (xs:=([] : List (S34))) (inner:=[]) (ok:=fun _=>True) (okp:=fun _=>True) ?hr ?hp (fun _ hk=>hk) trivial (Below.refl _ _) (Nat.le_refl _) (by simp) ?_;(case hd=>rfl);(case hg=>rfl);(case hr=>first|(go_simp;done)|(go_simp;rfl));(case hp=>exact (Reps.none _ _));intro v187 w300 ho301 hb hg_ hnew_;clear hg_ hnew_;(first|rw [← Ny186.out] at ho301|(simp only [Int.reduceToNat] at ho301;rw [← Ny186.out] at ho301));have n0_:=Aside0.mk (Kd.R_below (R_up HO178.out) hb);have n1_:=Aside0.mk (Kd.R_elder' (R_up HO185.out) (Kd.R_base ho301) hb);have n2_:=Aside0.mk (Kd.R_lower (Kd.R_new' ho301 (Kd.R_lt (R_up HO185.out))) (below_size (below_go HB.out)));have n3_:=Aside0.mk (blk_below (blk_up BK174.out) hb);have n4_:=Aside0.mk (blk_below (blk_up BK182.out) hb);have n5_:=Aside0.mk (below_step (below_go HB.out) hb);clear HO178;clear HO185;clear BK174;clear BK182;clear HB;have HO178:=n0_;have HO185:=n1_;have HO188:=n2_;have BK174:=n3_;have BK182:=n4_;have HB:=n5_;clear n0_ n1_ n2_ n3_ n4_ n5_;clear hb ho301)|((with_reducible refine gate_builtin (b:=.append) (xs:=#[.tmp 27,.tmp 28]) rfl ?_);(try (refine gate_guard (by rfl) ?_;dsimp only));at_builtin;refine Kd.R_append_rows k34 (w0:=w) w.heap.size rfl (.tmp 27) (.tmp 28) 26 34 (.agg #[(.int .i64 0),(.string ⟨#[]⟩)]) 24 rfl Try.underlying26 info34 rfl (by decide) (by omega) v187 y186 t183 _ _ _ (fun k_=>some k_≠(.slice Ao299 t183.length co299 : Value).ownBlock) (fun _=>False) rfl rfl ?aO ?aR (fun _ _ h=>h) (fun _ h=>h.elim) ?aF ?aB ?aS ?aL ?_;(case aR=>repeat (first|exact (Kd.R_reads' HO185.out).2.2|(with_reducible refine Kd.C_alloc ?_ _)|(with_reducible refine Kd.C_drewN ?_ _)|(with_reducible refine Kd.C_drew ?_)));(case aB=>exact (below_go HB.out));(case aF=>exact (fun k_ hk=>Kd.fresh' (Kd.R_lt (R_up HO185.out)) k_ hk));(case aO=>exact (by (with_reducible repeat (first|apply Kd.R_alloc|apply Kd.R_drewN|apply Kd.R_drew));exact Kd.R_mono HO188.out (fun _ hk=>hk.2)));(case aS=>exact (below_size (below_go HB.out)));(case aL=>have:=LMc8.out;omega);intro v190 w302 ho hb hg hat;rw [← Ny189.out] at ho;have n0_:=Aside0.mk (blk_grown (blk_up BK174.out) hg (Kd.R_ne HO188.out BK174.out (by decide)));have n1_:=Aside0.mk (Kd.R_over' (R_up HO178.out) (Kd.R_typed (R_up HO188.out)) (by decide) hg);have n2_:=Aside0.mk (blk_grown (blk_up BK182.out) hg (Kd.R_ne HO188.out BK182.out (by decide)));have n3_:=Aside0.mk (Kd.R_after (ok:=(fun _=>True)) (R_up HO185.out) hg hat);have n4_:=Aside0.mk (hb);have n5_:=Aside0.mk (ho);clear BK174;clear HO178;clear BK182;clear HO185;clear HB;clear HO188;have BK174:=n0_;have HO178:=n1_;have BK182:=n2_;have HO185:=n3_;have HB:=n4_;have HO191:=n5_;clear n0_ n1_ n2_ n3_ n4_ n5_;clear ho hb hg hat;have p12 : 0≤((ji9) : Int):=of_decide_eq_true (by first|(with_reducible assumption)|assumption);have q12 : ((ji9) : Int) < ((y189.length : Int) : Int):=of_decide_eq_true (by first|(with_reducible assumption)|assumption);obtain ⟨go12,co12,eo12,gb12,gl12,cl12,HG12⟩:=Kd.R_form HO191.out (by omega);(first|cases eo12|(injection eo12 with ea_ en_ ec_;(first|subst ea_|(injection ea_ with ea_;subst ea_));subst ec_;clear en_));have GB12:=Aside0.mk gb12;have GG12:=Aside0.mk HG12;clear gb12 gl12 HG12;obtain ⟨ce12,hcl12,hM12,hcc12,hfr12⟩:=Kd.R_elem HO191.out z34 ((ji9) : Int) p12 q12;obtain rfl:=k34_openM hM12;have hx12_0 : w302.cell? ⟨go12,((ji9) : Int).toNat * 2,none⟩=some (.int .i64 ((rd_T34 y189 (ji9)).f0)):=hcc12 0 _ rfl;have hx12_1 : w302.cell? ⟨go12,((ji9) : Int).toNat * 2 + 1,none⟩=some (.string ((rd_T34 y189 (ji9)).f1)):=hcc12 1 _ rfl;have hf12_0 : w302.frozen? ⟨go12,((ji9) : Int).toNat * 2,none⟩=false:=hfr12 0;have hf12_1 : w302.frozen? ⟨go12,((ji9) : Int).toNat * 2 + 1,none⟩=false:=hfr12 1;clear hcl12 hcc12 hfr12 hM12;replace p12:=eq_true p12;replace q12:=eq_true q12;have HX303:=Aside0.mk (show Kd.R k34 34 w302 w.heap.size (fun k_=>some k_≠(.slice Ao299 t183.length co299 : Value).ownBlock) (.slice (some ⟨go12,0,none⟩) y189.length co12) y189 from (R_up HO191.out));obtain ⟨ce303,hcl303,hM303,hcc303,hfr303⟩:=Kd.R_elem HX303.out z34 ((ji9) : Int) (of_decide_eq_true (by first|(with_reducible assumption)|assumption)) (by have h_ : ((ji9) : Int) < ((y189.length : Int) : Int):=of_decide_eq_true (by first|(with_reducible assumption)|assumption);first|exact h_|(have e_:=(Kd.R_reads' HO191.out).1;omega)|simpa using h_);obtain rfl:=k34_openM hM303;have HP303:=Kd.R_seg HX303.out ((ji9) : Int) (of_decide_eq_true (by first|(with_reducible assumption)|assumption)) (by have h_ : ((ji9) : Int) < ((y189.length : Int) : Int):=of_decide_eq_true (by first|(with_reducible assumption)|assumption);first|exact h_|(have e_:=(Kd.R_reads' HO191.out).1;omega)|simpa using h_) (seg:=[.int .i64 1,.string (⟨#[120]⟩ : ByteArray)]) (j:=0) hcl303 hcc303 (show 2≤2 from by decide) (x':=(⟨1,(⟨#[120]⟩ : ByteArray)⟩ : S34)) (k34_mkM _ _ _ (⟨1,(⟨#[120]⟩ : ByteArray)⟩ : S34) ) (fun _ hk=>hk);have hx303_0:=hcc303 0 _ rfl;(try simp only [show (k34).sz=2 from rfl,Nat.mul_one,Nat.add_zero] at hx303_0);have hf303_0:=hfr303 0;(try simp only [show (k34).sz=2 from rfl,Nat.mul_one,Nat.add_zero] at hf303_0);have hx303_1:=hcc303 1 _ rfl;(try simp only [show (k34).sz=2 from rfl,Nat.mul_one,Nat.add_zero] at hx303_1);have hf303_1:=hfr303 1;(try simp only [show (k34).sz=2 from rfl,Nat.mul_one,Nat.add_zero] at hf303_1);clear hcl303 hcc303 hfr303 hM303)|((with_reducible refine gate_store (t:=34) (p:=33) rfl ?_);refine store_event (t:=34) (p:=33) (v:=?vo_w304) (w1:=((w302.setCell ⟨go12,((ji9) : Int).toNat * 2,none⟩ (.int .i64 1)).setCell ⟨go12,((ji9) : Int).toNat * 2 + 1,none⟩ (.string (⟨#[120]⟩ : ByteArray)))) ?hg ?ho ?hn ?hr ?_;(case ho=>rfl);(case hg=>rfl);(case hn=>rfl);(case hr=>first|(go_simp;done)|(go_simp;rfl));intro w304 hw;have hg : w302.grownBy w304 (some go12):=(by rw [hw];exact HP303.2);have hp_ : Kd.R k34 34 w304 w.heap.size (fun k_=>some k_≠(.slice Ao299 t183.length co299 : Value).ownBlock) (.slice (some ⟨go12,0,none⟩) y189.length co12) y192:=(by rw [hw,Ny192.out];exact HP303.1);clear HP303;have n0_:=Aside0.mk (blk_grown (blk_up BK174.out) hg (Kd.R_ne HO191.out BK174.out (by decide)));have n1_:=Aside0.mk (Kd.R_over' (v:=(.slice (some ⟨go12,0,none⟩) y189.length co12)) (R_up HO178.out) (Kd.R_typed HO191.out) (by decide) hg);have n2_:=Aside0.mk (blk_grown (blk_up BK182.out) hg (Kd.R_ne HO191.out BK182.out (by decide)));have n3_:=Aside0.mk (Kd.R_after (v:=(.slice (some ⟨go12,0,none⟩) y189.length co12)) (v1:=(.slice (some ⟨go12,0,none⟩) y189.length co12)) (ok:=(fun _=>True)) (R_up HO185.out) hg (.inl rfl));have n4_:=Aside0.mk (hp_);have n5_:=Aside0.mk ((by rw [hw];exact below_set (below_set (HB.out) GB12.out) GB12.out : Below w.heap.size w w304));clear BK174;clear HO178;clear BK182;clear HO185;clear HO191;clear HB;have BK174:=n0_;have HO178:=n1_;have BK182:=n2_;have HO185:=n3_;have HO191:=n4_;have HB:=n5_;clear n0_ n1_ n2_ n3_ n4_ n5_;clear hg hw hp_;have hcz305_0 : w304.cell? ⟨gb182,0,none⟩=some (.slice Ao295 t176.length co295):=(blk_cell BK182.out 0).trans rfl;have hcz305_1 : w304.cell? ⟨gb182,1,none⟩=some (.int .i64 t179):=(blk_cell BK182.out 1).trans rfl;have hcz305_2 : w304.cell? ⟨gb182,2,none⟩=some (.int .i64 t180):=(blk_cell BK182.out 2).trans rfl;have hcz305_3 : w304.cell? ⟨gb182,3,none⟩=some (.int .i64 t181):=(blk_cell BK182.out 3).trans rfl;have hfz305_0:=blk_frozen BK182.out 0;have hfz305_1:=blk_frozen BK182.out 1;have hfz305_2:=blk_frozen BK182.out 2;have hfz305_3:=blk_frozen BK182.out 3)|((with_reducible refine gate_callee (f:=12) rfl ?_);refine goesL_ (some 36) rfl rfl Try.func12 (by kernel_rfl) rfl #[.agg #[.slice Ao295 t176.length co295,.int .i64 t179,.int .i64 t180,.int .i64 t181],.slice Ao299 t183.length co299] rfl (by (try simp only [List.map_toArray,List.map_cons,List.map_nil]);first|done|rfl|(simp only [List.length_drop,List.length_take];rfl)) ?_;(with_reducible refine (schema_Row.calls _ _ t176 t179 t180 t181 _ _ t183 t193 _ ?side1 ?side2 ?side3 ?side4 A13.out).mono ?_);(case side1=>repeat (first|exact (Kd.R_reads' HO178.out).2.2|(with_reducible refine Kd.C_alloc ?_ _)|(with_reducible refine Kd.C_drewN ?_ _)|(with_reducible refine Kd.C_drew ?_)));(case side2=>exact (Kd.R_reads' HO178.out).2.1);(case side3=>repeat (first|exact (Kd.R_reads' HO185.out).2.2|(with_reducible refine Kd.C_alloc ?_ _)|(with_reducible refine Kd.C_drewN ?_ _)|(with_reducible refine Kd.C_drew ?_)));(case side4=>exact (Kd.R_reads' HO185.out).2.1);rintro e w306 ⟨rfl,hb⟩;refine ⟨_,rfl,?_⟩;have n0_:=Aside0.mk (Kd.R_below (R_up HO178.out) hb);have n1_:=Aside0.mk (Kd.R_below (R_up HO185.out) hb);have n2_:=Aside0.mk (Kd.R_below (R_up HO191.out) hb);have n3_:=Aside0.mk (blk_below (blk_up BK174.out) hb);have n4_:=Aside0.mk (blk_below (blk_up BK182.out) hb);have n5_:=Aside0.mk (below_step (below_go HB.out) hb);clear HO178;clear HO185;clear HO191;clear BK174;clear BK182;clear HB;have HO178:=n0_;have HO185:=n1_;have HO191:=n2_;have BK174:=n3_;have BK182:=n4_;have HB:=n5_;clear n0_ n1_ n2_ n3_ n4_ n5_;(try clear hb);(try clear hb2);(try clear hk);(try clear hi)))
            have n0_:=Aside0.mk (Kd.R_drew HO178.out)
            have n1_:=Aside0.mk (Kd.R_drew HO185.out)
            have n2_:=Aside0.mk (Kd.R_drew HO191.out)
            have n3_:=Aside0.mk (blk_drew BK174.out)
            have n4_:=Aside0.mk (blk_drew BK182.out)
            have n5_:=Aside0.mk (below_drew1 HB.out)
            clear HO178
            clear HO185
            clear HO191
            clear BK174
            clear BK182
            clear HB
            have HO178:=n0_
            have HO185:=n1_
            have HO191:=n2_
            have BK174:=n3_
            have BK182:=n4_
            have HB:=n5_
            clear n0_ n1_ n2_ n3_ n4_ n5_
            refine start_ (n:=9) (S:=fun w'=>w'.cell? ⟨gb182,0,none⟩=some (.slice Ao295 t176.length co295)∧w'.cell? ⟨gb182,1,none⟩=some (.int .i64 t179)∧w'.cell? ⟨gb182,2,none⟩=some (.int .i64 t180)∧w'.cell? ⟨gb182,3,none⟩=some (.int .i64 t181)) (ds:=[]) #[false,false,false,false,false,false,false,false,false] (by kernel_rfl) rfl rfl ⟨(blk_cell BK182.out 0).trans rfl,(blk_cell BK182.out 1).trans rfl,(blk_cell BK182.out 2).trans rfl,(blk_cell BK182.out 3).trans rfl⟩ (fun hHeld=>?_);refine with_tabW thresherlaw04_SchemaRows.tab8 thresherlaw04_SchemaRows.bits8 (fun HT_ HW_=>?_)
            generalize w306.drew=w307 at HO178 HO185 HO191 BK174 BK182 HB hHeld ⊢
            refine pure_ (i:=2) (N:=some 39) (v:=?_) (a':=?_) #[false,false,true,false,false,false,false,false,false] rfl rfl (any_of HT_.out (by kernel_rfl)) (fun _ _ _ h=>h) (Or.inl ⟨by rfl,?_⟩) ?_ ?_
            rotate_left;(intro w';go_simp;with_reducible rfl);rotate_left;(simp only [Act.put,List.setIfInBounds_toArray,List.set_cons_zero,List.set_cons_succ,i64_w,i32_w];rfl)
            refine pure_ (i:=4) (N:=some 41) (v:=?_) (a':=?_) #[false,false,true,false,true,false,false,false,false] rfl rfl (any_of HT_.out (by kernel_rfl)) (fun _ _ _ h=>h) (Or.inl ⟨by rfl,?_⟩) ?_ ?_
            rotate_left;(intro w';go_simp;with_reducible rfl);rotate_left;(simp only [Act.put,List.setIfInBounds_toArray,List.set_cons_zero,List.set_cons_succ,i64_w,i32_w];rfl)
            refine take_ (i:=0) (N:=some 37) (v:=?_) (a':=?_) #[true,false,true,false,true,false,false,false,false] rfl rfl (take_ofW HT_.out HW_.out (by kernel_rfl)) (fun _ _ _ h=>h) (Or.inl ⟨by rfl,?_⟩) hHeld ?_ ?_
            rotate_left;(rintro w' ⟨s0,s1,s2,s3⟩;go_simp;with_reducible rfl);rotate_left;(simp only [Act.put,List.setIfInBounds_toArray,List.set_cons_zero,List.set_cons_succ,i64_w,i32_w];rfl)
            refine join_ (σ:=Value × Value × Value) 3 #[true,true,true,true,true,true,false,false,false] (fun s_=>[(38,s_.1),(40,s_.2.1),(42,s_.2.2)]) (fun s_ w'=>(w'.cell? ⟨gb182,0,none⟩=some (.slice Ao295 t176.length co295)∧w'.cell? ⟨gb182,1,none⟩=some (.int .i64 t179)∧w'.cell? ⟨gb182,2,none⟩=some (.int .i64 t180)∧w'.cell? ⟨gb182,3,none⟩=some (.int .i64 t181))∧(Kd.R (Kd.int .i64) 3 w' w.heap.size (fun _=>True) (.slice Ao295 t176.length co295) t176)∧(Kd.R k34 34 w' w.heap.size (fun k_=>some k_≠(.slice (some ⟨go12,0,none⟩) y189.length co12 : Value).ownBlock∧some k_≠(s_.2.1 : Value).ownBlock∧some k_≠(s_.2.2 : Value).ownBlock) (.slice Ao299 t183.length co299) t183)∧(Kd.R k34 34 w' w.heap.size (fun k_=>some k_≠(.slice Ao299 t183.length co299 : Value).ownBlock∧some k_≠(s_.2.1 : Value).ownBlock∧some k_≠(s_.2.2 : Value).ownBlock) (.slice (some ⟨go12,0,none⟩) y189.length co12) y192)∧(Kd.R k34 34 w' w.heap.size (fun k_=>some k_≠(.slice Ao299 t183.length co299 : Value).ownBlock∧some k_≠(.slice (some ⟨go12,0,none⟩) y189.length co12 : Value).ownBlock∧some k_≠(s_.2.2 : Value).ownBlock) s_.2.1 y197)∧(Kd.R k34 34 w' w.heap.size (fun k_=>some k_≠(.slice Ao299 t183.length co299 : Value).ownBlock∧some k_≠(.slice (some ⟨go12,0,none⟩) y189.length co12 : Value).ownBlock∧some k_≠(s_.2.1 : Value).ownBlock) s_.2.2 y200)∧(w'.heap[gb174]?=some (.cells #[.int .u8 a0_0,.int .u8 a0_1,.int .u8 a0_2,.int .u8 a0_3,.int .u8 a0_4,.int .u8 a0_5,.int .u8 a0_6,.int .u8 a0_7,.int .u8 a0_8,.int .u8 a0_9,.int .u8 a0_10,.int .u8 a0_11] 24 (0,0)))∧(w'.heap[gb182]?=some (.cells #[.slice Ao295 t176.length co295,.int .i64 t179,.int .i64 t180,.int .i64 t181] 30 (0,0)))∧(Below w.heap.size w w')) ?_ ?_
            rotate_left
            ·intro hCont
             refine two_ (i:=1) (j:=5) (Ni:=some 38) (Nj:=some 42) #[true,true,true,false,true,false,false,false,false] #[true,false,true,false,true,true,false,false,false] rfl rfl rfl rfl (two_of HT_.out (by kernel_rfl)) (by decide) (by decide) (fun K hK=>?_) (fun K hK=>?_)
             ·skip
              refine Kd.R_lit_step k34 _ 34 ?hg (N:=38) ?hd (xs:=([] : List (S34))) (inner:=[]) (ok:=fun _=>True) (okp:=fun _=>True) ?hr ?hp (fun _ hk=>hk) trivial (Below.refl _ _) (Nat.le_refl _) (by simp) ?_;(case hd=>rfl);(case hg=>rfl);(case hr=>first|(go_simp;done)|(go_simp;rfl));(case hp=>exact (Reps.none _ _))
              intro v195 w308 ho309 hb hg_ hnew_
              clear hg_ hnew_
              (first|rw [← Ny194.out] at ho309|(simp only [Int.reduceToNat] at ho309;rw [← Ny194.out] at ho309))
              have n0_:=Aside0.mk (Kd.R_below (R_up HO178.out) hb)
              have n1_:=Aside0.mk (Kd.R_elder' (R_up HO185.out) (Kd.R_base ho309) hb)
              have n2_:=Aside0.mk (Kd.R_elder' (R_up HO191.out) (Kd.R_base ho309) hb)
              have n3_:=Aside0.mk (Kd.R_lower (Kd.R_new' (Kd.R_new' ho309 (Kd.R_lt (R_up HO185.out))) (Kd.R_lt (R_up HO191.out))) (below_size (below_go HB.out)))
              have n4_:=Aside0.mk (blk_below (blk_up BK174.out) hb)
              have n5_:=Aside0.mk (blk_below (blk_up BK182.out) hb)
              have n6_:=Aside0.mk (below_step (below_go HB.out) hb)
              clear HO178
              clear HO185
              clear HO191
              clear BK174
              clear BK182
              clear HB
              have HO178:=n0_
              have HO185:=n1_
              have HO191:=n2_
              have HO196:=n3_
              have BK174:=n4_
              have BK182:=n5_
              have HB:=n6_
              clear n0_ n1_ n2_ n3_ n4_ n5_ n6_
              clear hb ho309
              refine hK.out _ _ ⟨(blk_cell BK182.out 0).trans rfl,(blk_cell BK182.out 1).trans rfl,(blk_cell BK182.out 2).trans rfl,(blk_cell BK182.out 3).trans rfl⟩ (fun hHeld=>?_)
              clear hK K
              refine norm_ (a':=?_) ?_ ?_
              rotate_left
              ·show Act.put _ (some 38) _=_
               simp only [Act.put,List.setIfInBounds_toArray,List.set_cons_zero,List.set_cons_succ,i64_w,i32_w]
               rfl
              refine two_ (i:=3) (j:=5) (Ni:=some 40) (Nj:=some 42) #[true,true,true,true,true,false,false,false,false] #[true,true,true,false,true,true,false,false,false] rfl rfl rfl rfl (two_of HT_.out (by kernel_rfl)) (by decide) (by decide) (fun K hK=>?_) (fun K hK=>?_)
              ·skip
               refine Kd.R_append_rows_step k34 (w0:=w) w.heap.size (by rfl) (.tmp 38) (.tmp 39) 26 34 (.agg #[(.int .i64 0),(.string ⟨#[]⟩)]) 24 rfl Try.underlying26 info34 rfl (by decide) (by omega) v195 y194 t183 _ _ _ (fun k_=>some k_≠(.slice Ao299 t183.length co299 : Value).ownBlock∧some k_≠(.slice (some ⟨go12,0,none⟩) y189.length co12 : Value).ownBlock) (fun _=>False) rfl rfl ?aO ?aR (fun _ _ h=>h) (fun _ h=>h.elim) ?aF ?aB ?aS ?aL ?_
               (case aR=>repeat (first|exact (Kd.R_reads' HO185.out).2.2|(with_reducible refine Kd.C_alloc ?_ _)|(with_reducible refine Kd.C_drewN ?_ _)|(with_reducible refine Kd.C_drew ?_)))
               (case aB=>exact (below_go HB.out))
               (case aF=>exact (fun k_ hk=>⟨Kd.fresh' (Kd.R_lt (R_up HO185.out)) k_ hk,Kd.fresh' (Kd.R_lt (R_up HO191.out)) k_ hk⟩))
               (case aO=>exact (by (with_reducible repeat (first|apply Kd.R_alloc|apply Kd.R_drewN|apply Kd.R_drew));exact Kd.R_mono HO196.out (fun _ hk=>⟨hk.1.2,hk.2⟩)))
               (case aS=>exact (below_size (below_go HB.out)))
               (case aL=>have:=LMc14.out;omega)
               intro v198 w310 ho hb hg hat
               rw [← Ny197.out] at ho
               have n0_:=Aside0.mk (blk_grown (blk_up BK174.out) hg (Kd.R_ne HO196.out BK174.out (by decide)))
               have n1_:=Aside0.mk (Kd.R_over' (R_up HO178.out) (Kd.R_typed (R_up HO196.out)) (by decide) hg)
               have n2_:=Aside0.mk (blk_grown (blk_up BK182.out) hg (Kd.R_ne HO196.out BK182.out (by decide)))
               have n3_:=Aside0.mk (Kd.R_after (ok:=(fun k_=>some k_≠(.slice (some ⟨go12,0,none⟩) y189.length co12 : Value).ownBlock)) (by (with_reducible repeat (first|apply Kd.R_alloc|apply Kd.R_drewN|apply Kd.R_drew));exact Kd.R_mono HO185.out (fun _ hk=>⟨hk.1.2,hk.2⟩)) hg hat)
               have n4_:=Aside0.mk (Kd.R_after (ok:=(fun k_=>some k_≠(.slice Ao299 t183.length co299 : Value).ownBlock)) (R_up HO191.out) hg hat)
               have n5_:=Aside0.mk (hb)
               have n6_:=Aside0.mk (ho)
               clear BK174
               clear HO178
               clear BK182
               clear HO185
               clear HO191
               clear HB
               clear HO196
               have BK174:=n0_
               have HO178:=n1_
               have BK182:=n2_
               have HO185:=n3_
               have HO191:=n4_
               have HB:=n5_
               have HO199:=n6_
               clear n0_ n1_ n2_ n3_ n4_ n5_ n6_
               clear ho hb hg hat
               refine hK.out _ _ ⟨(blk_cell BK182.out 0).trans rfl,(blk_cell BK182.out 1).trans rfl,(blk_cell BK182.out 2).trans rfl,(blk_cell BK182.out 3).trans rfl⟩ (fun hHeld=>?_)
               clear hK K
               refine norm_ (a':=?_) ?_ ?_
               rotate_left
               ·show Act.put _ (some 40) _=_
                simp only [Act.put,List.setIfInBounds_toArray,List.set_cons_zero,List.set_cons_succ,i64_w,i32_w]
                rfl
               refine one_ (i:=5) (N:=some 42) #[true,true,true,true,true,true,false,false,false] rfl rfl (one_of HT_.out (by kernel_rfl)) (by decide) (fun K hK=>?_)
               refine Kd.R_lit_step k34 _ 34 ?hg (N:=42) ?hd (xs:=([(⟨0,(⟨#[]⟩ : ByteArray)⟩ : S34)] : List (S34))) (inner:=[.int .i64 0,.string (⟨#[]⟩ : ByteArray)]) (ok:=fun _=>True) (okp:=fun _=>True) ?hr ?hp (fun _ hk=>hk) trivial (Below.refl _ _) (Nat.le_refl _) (by simp) ?_;(case hd=>rfl);(case hg=>rfl);(case hr=>first|(go_simp;done)|(go_simp;rfl));(case hp=>exact (Reps.c2 (show Kd.M k34 _ _ _ (⟨0,(⟨#[]⟩ : ByteArray)⟩ : S34) [.int .i64 0,.string (⟨#[]⟩ : ByteArray)] from (k34_mkM _ _ _ (⟨0,(⟨#[]⟩ : ByteArray)⟩ : S34) )) (Reps.none _ _)))
               intro v201 w311 ho312 hb hg_ hnew_
               clear hg_ hnew_
               (first|rw [← Ny200.out] at ho312|(simp only [Int.reduceToNat] at ho312;rw [← Ny200.out] at ho312))
               have n0_:=Aside0.mk (Kd.R_below (R_up HO178.out) hb)
               have n1_:=Aside0.mk (Kd.R_elder' (R_up HO185.out) (Kd.R_base ho312) hb)
               have n2_:=Aside0.mk (Kd.R_elder' (R_up HO191.out) (Kd.R_base ho312) hb)
               have n3_:=Aside0.mk (Kd.R_elder' (R_up HO199.out) (Kd.R_base ho312) hb)
               have n4_:=Aside0.mk (Kd.R_lower (Kd.R_new' (Kd.R_new' (Kd.R_new' ho312 (Kd.R_lt (R_up HO185.out))) (Kd.R_lt (R_up HO191.out))) (Kd.R_lt (R_up HO199.out))) (below_size (below_go HB.out)))
               have n5_:=Aside0.mk (blk_below (blk_up BK174.out) hb)
               have n6_:=Aside0.mk (blk_below (blk_up BK182.out) hb)
               have n7_:=Aside0.mk (below_step (below_go HB.out) hb)
               clear HO178
               clear HO185
               clear HO191
               clear HO199
               clear BK174
               clear BK182
               clear HB
               have HO178:=n0_
               have HO185:=n1_
               have HO191:=n2_
               have HO199:=n3_
               have HO202:=n4_
               have BK174:=n5_
               have BK182:=n6_
               have HB:=n7_
               clear n0_ n1_ n2_ n3_ n4_ n5_ n6_ n7_
               clear hb ho312
               refine hK.out _ _ ⟨(blk_cell BK182.out 0).trans rfl,(blk_cell BK182.out 1).trans rfl,(blk_cell BK182.out 2).trans rfl,(blk_cell BK182.out 3).trans rfl⟩ (fun hHeld=>?_)
               clear hK K
               refine norm_ (a':=?_) ?_ ?_
               rotate_left
               ·show Act.put _ (some 42) _=_
                simp only [Act.put,List.setIfInBounds_toArray,List.set_cons_zero,List.set_cons_succ,i64_w,i32_w]
                rfl
               exact norm_ (by simp only [putAll,Act.put,List.setIfInBounds_toArray,List.set_cons_zero,List.set_cons_succ]) (hCont (v195,v198,v201) _ ⟨hHeld,(R_up HO178.out),(by (with_reducible repeat (first|apply Kd.R_alloc|apply Kd.R_drewN|apply Kd.R_drew));exact Kd.R_mono HO185.out (fun _ hk=>⟨hk.1.1,⟨hk.1.2,hk.2⟩⟩)),(by (with_reducible repeat (first|apply Kd.R_alloc|apply Kd.R_drewN|apply Kd.R_drew));exact Kd.R_mono HO191.out (fun _ hk=>⟨hk.1.1,⟨hk.1.2,hk.2⟩⟩)),(by (with_reducible repeat (first|apply Kd.R_alloc|apply Kd.R_drewN|apply Kd.R_drew));exact Kd.R_mono HO199.out (fun _ hk=>⟨hk.1.1,⟨hk.1.2,hk.2⟩⟩)),(by (with_reducible repeat (first|apply Kd.R_alloc|apply Kd.R_drewN|apply Kd.R_drew));exact Kd.R_mono HO202.out (fun _ hk=>⟨hk.1.1.2,⟨hk.1.2,hk.2⟩⟩)),(blk_up BK174.out),(blk_up BK182.out),(below_go HB.out)⟩)
              ·skip
               refine Kd.R_lit_step k34 _ 34 ?hg (N:=42) ?hd (xs:=([(⟨0,(⟨#[]⟩ : ByteArray)⟩ : S34)] : List (S34))) (inner:=[.int .i64 0,.string (⟨#[]⟩ : ByteArray)]) (ok:=fun _=>True) (okp:=fun _=>True) ?hr ?hp (fun _ hk=>hk) trivial (Below.refl _ _) (Nat.le_refl _) (by simp) ?_;(case hd=>rfl);(case hg=>rfl);(case hr=>first|(go_simp;done)|(go_simp;rfl));(case hp=>exact (Reps.c2 (show Kd.M k34 _ _ _ (⟨0,(⟨#[]⟩ : ByteArray)⟩ : S34) [.int .i64 0,.string (⟨#[]⟩ : ByteArray)] from (k34_mkM _ _ _ (⟨0,(⟨#[]⟩ : ByteArray)⟩ : S34) )) (Reps.none _ _)))
               intro v201 w310 ho311 hb hg_ hnew_
               clear hg_ hnew_
               (first|rw [← Ny200.out] at ho311|(simp only [Int.reduceToNat] at ho311;rw [← Ny200.out] at ho311))
               have n0_:=Aside0.mk (Kd.R_below (R_up HO178.out) hb)
               have n1_:=Aside0.mk (Kd.R_elder' (R_up HO185.out) (Kd.R_base ho311) hb)
               have n2_:=Aside0.mk (Kd.R_elder' (R_up HO191.out) (Kd.R_base ho311) hb)
               have n3_:=Aside0.mk (Kd.R_elder' (R_up HO196.out) (Kd.R_base ho311) hb)
               have n4_:=Aside0.mk (Kd.R_lower (Kd.R_new' (Kd.R_new' (Kd.R_new' ho311 (Kd.R_lt (R_up HO185.out))) (Kd.R_lt (R_up HO191.out))) (Kd.R_lt (R_up HO196.out))) (below_size (below_go HB.out)))
               have n5_:=Aside0.mk (blk_below (blk_up BK174.out) hb)
               have n6_:=Aside0.mk (blk_below (blk_up BK182.out) hb)
               have n7_:=Aside0.mk (below_step (below_go HB.out) hb)
               clear HO178
               clear HO185
               clear HO191
               clear HO196
               clear BK174
               clear BK182
               clear HB
               have HO178:=n0_
               have HO185:=n1_
               have HO191:=n2_
               have HO196:=n3_
               have HO202:=n4_
               have BK174:=n5_
               have BK182:=n6_
               have HB:=n7_
               clear n0_ n1_ n2_ n3_ n4_ n5_ n6_ n7_
               clear hb ho311
               refine hK.out _ _ ⟨(blk_cell BK182.out 0).trans rfl,(blk_cell BK182.out 1).trans rfl,(blk_cell BK182.out 2).trans rfl,(blk_cell BK182.out 3).trans rfl⟩ (fun hHeld=>?_)
               clear hK K
               refine norm_ (a':=?_) ?_ ?_
               rotate_left
               ·show Act.put _ (some 42) _=_
                simp only [Act.put,List.setIfInBounds_toArray,List.set_cons_zero,List.set_cons_succ,i64_w,i32_w]
                rfl
               refine one_ (i:=3) (N:=some 40) #[true,true,true,true,true,true,false,false,false] rfl rfl (one_of HT_.out (by kernel_rfl)) (by decide) (fun K hK=>?_)
               refine Kd.R_append_rows_step k34 (w0:=w) w.heap.size (by rfl) (.tmp 38) (.tmp 39) 26 34 (.agg #[(.int .i64 0),(.string ⟨#[]⟩)]) 24 rfl Try.underlying26 info34 rfl (by decide) (by omega) v195 y194 t183 _ _ _ (fun k_=>some k_≠(.slice Ao299 t183.length co299 : Value).ownBlock∧some k_≠(.slice (some ⟨go12,0,none⟩) y189.length co12 : Value).ownBlock∧some k_≠(v201 : Value).ownBlock) (fun _=>False) rfl rfl ?aO ?aR (fun _ _ h=>h) (fun _ h=>h.elim) ?aF ?aB ?aS ?aL ?_
               (case aR=>repeat (first|exact (Kd.R_reads' HO185.out).2.2|(with_reducible refine Kd.C_alloc ?_ _)|(with_reducible refine Kd.C_drewN ?_ _)|(with_reducible refine Kd.C_drew ?_)))
               (case aB=>exact (below_go HB.out))
               (case aF=>exact (fun k_ hk=>⟨Kd.fresh' (Kd.R_lt (R_up HO185.out)) k_ hk,Kd.fresh' (Kd.R_lt (R_up HO191.out)) k_ hk,Kd.fresh' (Kd.R_lt (R_up HO202.out)) k_ hk⟩))
               (case aO=>exact (by (with_reducible repeat (first|apply Kd.R_alloc|apply Kd.R_drewN|apply Kd.R_drew));exact Kd.R_mono HO196.out (fun _ hk=>⟨hk.1.1.2,⟨hk.1.2,hk.2⟩⟩)))
               (case aS=>exact (below_size (below_go HB.out)))
               (case aL=>have:=LMc14.out;omega)
               intro v198 w312 ho hb hg hat
               rw [← Ny197.out] at ho
               have n0_:=Aside0.mk (blk_grown (blk_up BK174.out) hg (Kd.R_ne HO196.out BK174.out (by decide)))
               have n1_:=Aside0.mk (Kd.R_over' (R_up HO178.out) (Kd.R_typed (R_up HO196.out)) (by decide) hg)
               have n2_:=Aside0.mk (blk_grown (blk_up BK182.out) hg (Kd.R_ne HO196.out BK182.out (by decide)))
               have n3_:=Aside0.mk (Kd.R_after (ok:=(fun k_=>some k_≠(.slice (some ⟨go12,0,none⟩) y189.length co12 : Value).ownBlock∧some k_≠(v201 : Value).ownBlock)) (by (with_reducible repeat (first|apply Kd.R_alloc|apply Kd.R_drewN|apply Kd.R_drew));exact Kd.R_mono HO185.out (fun _ hk=>⟨⟨hk.1.1.2,hk.2⟩,hk.1.2⟩)) hg hat)
               have n4_:=Aside0.mk (Kd.R_after (ok:=(fun k_=>some k_≠(.slice Ao299 t183.length co299 : Value).ownBlock∧some k_≠(v201 : Value).ownBlock)) (by (with_reducible repeat (first|apply Kd.R_alloc|apply Kd.R_drewN|apply Kd.R_drew));exact Kd.R_mono HO191.out (fun _ hk=>⟨⟨hk.1.1,hk.2⟩,hk.1.2⟩)) hg hat)
               have n5_:=Aside0.mk (Kd.R_after (ok:=(fun k_=>some k_≠(.slice Ao299 t183.length co299 : Value).ownBlock∧some k_≠(.slice (some ⟨go12,0,none⟩) y189.length co12 : Value).ownBlock)) (by (with_reducible repeat (first|apply Kd.R_alloc|apply Kd.R_drewN|apply Kd.R_drew));exact Kd.R_mono HO202.out (fun _ hk=>⟨⟨hk.1.1.2,hk.1.2⟩,hk.2⟩)) hg hat)
               have n6_:=Aside0.mk (hb)
               have n7_:=Aside0.mk (ho)
               clear BK174
               clear HO178
               clear BK182
               clear HO185
               clear HO191
               clear HO202
               clear HB
               clear HO196
               have BK174:=n0_
               have HO178:=n1_
               have BK182:=n2_
               have HO185:=n3_
               have HO191:=n4_
               have HO202:=n5_
               have HB:=n6_
               have HO199:=n7_
               clear n0_ n1_ n2_ n3_ n4_ n5_ n6_ n7_
               clear ho hb hg hat
               refine hK.out _ _ ⟨(blk_cell BK182.out 0).trans rfl,(blk_cell BK182.out 1).trans rfl,(blk_cell BK182.out 2).trans rfl,(blk_cell BK182.out 3).trans rfl⟩ (fun hHeld=>?_)
               clear hK K
               refine norm_ (a':=?_) ?_ ?_
               rotate_left
               ·show Act.put _ (some 40) _=_
                simp only [Act.put,List.setIfInBounds_toArray,List.set_cons_zero,List.set_cons_succ,i64_w,i32_w]
                rfl
               exact norm_ (by simp only [putAll,Act.put,List.setIfInBounds_toArray,List.set_cons_zero,List.set_cons_succ]) (hCont (v195,v198,v201) _ ⟨hHeld,(R_up HO178.out),(by (with_reducible repeat (first|apply Kd.R_alloc|apply Kd.R_drewN|apply Kd.R_drew));exact Kd.R_mono HO185.out (fun _ hk=>⟨hk.1.1,⟨hk.2,hk.1.2⟩⟩)),(by (with_reducible repeat (first|apply Kd.R_alloc|apply Kd.R_drewN|apply Kd.R_drew));exact Kd.R_mono HO191.out (fun _ hk=>⟨hk.1.1,⟨hk.2,hk.1.2⟩⟩)),(R_up HO199.out),(by (with_reducible repeat (first|apply Kd.R_alloc|apply Kd.R_drewN|apply Kd.R_drew));exact Kd.R_mono HO202.out (fun _ hk=>⟨hk.1.1,⟨hk.1.2,hk.2⟩⟩)),(blk_up BK174.out),(blk_up BK182.out),(below_go HB.out)⟩)
             ·skip
              refine Kd.R_lit_step k34 _ 34 ?hg (N:=42) ?hd (xs:=([(⟨0,(⟨#[]⟩ : ByteArray)⟩ : S34)] : List (S34))) (inner:=[.int .i64 0,.string (⟨#[]⟩ : ByteArray)]) (ok:=fun _=>True) (okp:=fun _=>True) ?hr ?hp (fun _ hk=>hk) trivial (Below.refl _ _) (Nat.le_refl _) (by simp) ?_;(case hd=>rfl);(case hg=>rfl);(case hr=>first|(go_simp;done)|(go_simp;rfl));(case hp=>exact (Reps.c2 (show Kd.M k34 _ _ _ (⟨0,(⟨#[]⟩ : ByteArray)⟩ : S34) [.int .i64 0,.string (⟨#[]⟩ : ByteArray)] from (k34_mkM _ _ _ (⟨0,(⟨#[]⟩ : ByteArray)⟩ : S34) )) (Reps.none _ _)))
              intro v201 w308 ho309 hb hg_ hnew_
              clear hg_ hnew_
              (first|rw [← Ny200.out] at ho309|(simp only [Int.reduceToNat] at ho309;rw [← Ny200.out] at ho309))
              have n0_:=Aside0.mk (Kd.R_below (R_up HO178.out) hb)
              have n1_:=Aside0.mk (Kd.R_elder' (R_up HO185.out) (Kd.R_base ho309) hb)
              have n2_:=Aside0.mk (Kd.R_elder' (R_up HO191.out) (Kd.R_base ho309) hb)
              have n3_:=Aside0.mk (Kd.R_lower (Kd.R_new' (Kd.R_new' ho309 (Kd.R_lt (R_up HO185.out))) (Kd.R_lt (R_up HO191.out))) (below_size (below_go HB.out)))
              have n4_:=Aside0.mk (blk_below (blk_up BK174.out) hb)
              have n5_:=Aside0.mk (blk_below (blk_up BK182.out) hb)
              have n6_:=Aside0.mk (below_step (below_go HB.out) hb)
              clear HO178
              clear HO185
              clear HO191
              clear BK174
              clear BK182
              clear HB
              have HO178:=n0_
              have HO185:=n1_
              have HO191:=n2_
              have HO202:=n3_
              have BK174:=n4_
              have BK182:=n5_
              have HB:=n6_
              clear n0_ n1_ n2_ n3_ n4_ n5_ n6_
              clear hb ho309
              refine hK.out _ _ ⟨(blk_cell BK182.out 0).trans rfl,(blk_cell BK182.out 1).trans rfl,(blk_cell BK182.out 2).trans rfl,(blk_cell BK182.out 3).trans rfl⟩ (fun hHeld=>?_)
              clear hK K
              refine norm_ (a':=?_) ?_ ?_
              rotate_left
              ·show Act.put _ (some 42) _=_
               simp only [Act.put,List.setIfInBounds_toArray,List.set_cons_zero,List.set_cons_succ,i64_w,i32_w]
               rfl
              refine one_ (i:=1) (N:=some 38) #[true,true,true,false,true,true,false,false,false] rfl rfl (one_of HT_.out (by kernel_rfl)) (by decide) (fun K hK=>?_)
              refine Kd.R_lit_step k34 _ 34 ?hg (N:=38) ?hd (xs:=([] : List (S34))) (inner:=[]) (ok:=fun _=>True) (okp:=fun _=>True) ?hr ?hp (fun _ hk=>hk) trivial (Below.refl _ _) (Nat.le_refl _) (by simp) ?_;(case hd=>rfl);(case hg=>rfl);(case hr=>first|(go_simp;done)|(go_simp;rfl));(case hp=>exact (Reps.none _ _))
              intro v195 w310 ho311 hb hg_ hnew_
              clear hg_ hnew_
              (first|rw [← Ny194.out] at ho311|(simp only [Int.reduceToNat] at ho311;rw [← Ny194.out] at ho311))
              have n0_:=Aside0.mk (Kd.R_below (R_up HO178.out) hb)
              have n1_:=Aside0.mk (Kd.R_elder' (R_up HO185.out) (Kd.R_base ho311) hb)
              have n2_:=Aside0.mk (Kd.R_elder' (R_up HO191.out) (Kd.R_base ho311) hb)
              have n3_:=Aside0.mk (Kd.R_elder' (R_up HO202.out) (Kd.R_base ho311) hb)
              have n4_:=Aside0.mk (Kd.R_lower (Kd.R_new' (Kd.R_new' (Kd.R_new' ho311 (Kd.R_lt (R_up HO185.out))) (Kd.R_lt (R_up HO191.out))) (Kd.R_lt (R_up HO202.out))) (below_size (below_go HB.out)))
              have n5_:=Aside0.mk (blk_below (blk_up BK174.out) hb)
              have n6_:=Aside0.mk (blk_below (blk_up BK182.out) hb)
              have n7_:=Aside0.mk (below_step (below_go HB.out) hb)
              clear HO178
              clear HO185
              clear HO191
              clear HO202
              clear BK174
              clear BK182
              clear HB
              have HO178:=n0_
              have HO185:=n1_
              have HO191:=n2_
              have HO202:=n3_
              have HO196:=n4_
              have BK174:=n5_
              have BK182:=n6_
              have HB:=n7_
              clear n0_ n1_ n2_ n3_ n4_ n5_ n6_ n7_
              clear hb ho311
              refine hK.out _ _ ⟨(blk_cell BK182.out 0).trans rfl,(blk_cell BK182.out 1).trans rfl,(blk_cell BK182.out 2).trans rfl,(blk_cell BK182.out 3).trans rfl⟩ (fun hHeld=>?_)
              clear hK K
              refine norm_ (a':=?_) ?_ ?_
              rotate_left
              ·show Act.put _ (some 38) _=_
               simp only [Act.put,List.setIfInBounds_toArray,List.set_cons_zero,List.set_cons_succ,i64_w,i32_w]
               rfl
              refine one_ (i:=3) (N:=some 40) #[true,true,true,true,true,true,false,false,false] rfl rfl (one_of HT_.out (by kernel_rfl)) (by decide) (fun K hK=>?_)
              refine Kd.R_append_rows_step k34 (w0:=w) w.heap.size (by rfl) (.tmp 38) (.tmp 39) 26 34 (.agg #[(.int .i64 0),(.string ⟨#[]⟩)]) 24 rfl Try.underlying26 info34 rfl (by decide) (by omega) v195 y194 t183 _ _ _ (fun k_=>some k_≠(.slice Ao299 t183.length co299 : Value).ownBlock∧some k_≠(.slice (some ⟨go12,0,none⟩) y189.length co12 : Value).ownBlock∧some k_≠(v201 : Value).ownBlock) (fun _=>False) rfl rfl ?aO ?aR (fun _ _ h=>h) (fun _ h=>h.elim) ?aF ?aB ?aS ?aL ?_
              (case aR=>repeat (first|exact (Kd.R_reads' HO185.out).2.2|(with_reducible refine Kd.C_alloc ?_ _)|(with_reducible refine Kd.C_drewN ?_ _)|(with_reducible refine Kd.C_drew ?_)))
              (case aB=>exact (below_go HB.out))
              (case aF=>exact (fun k_ hk=>⟨Kd.fresh' (Kd.R_lt (R_up HO185.out)) k_ hk,Kd.fresh' (Kd.R_lt (R_up HO191.out)) k_ hk,Kd.fresh' (Kd.R_lt (R_up HO202.out)) k_ hk⟩))
              (case aO=>exact (by (with_reducible repeat (first|apply Kd.R_alloc|apply Kd.R_drewN|apply Kd.R_drew));exact Kd.R_mono HO196.out (fun _ hk=>⟨hk.1.1.2,⟨hk.1.2,hk.2⟩⟩)))
              (case aS=>exact (below_size (below_go HB.out)))
              (case aL=>have:=LMc14.out;omega)
              intro v198 w312 ho hb hg hat
              rw [← Ny197.out] at ho
              have n0_:=Aside0.mk (blk_grown (blk_up BK174.out) hg (Kd.R_ne HO196.out BK174.out (by decide)))
              have n1_:=Aside0.mk (Kd.R_over' (R_up HO178.out) (Kd.R_typed (R_up HO196.out)) (by decide) hg)
              have n2_:=Aside0.mk (blk_grown (blk_up BK182.out) hg (Kd.R_ne HO196.out BK182.out (by decide)))
              have n3_:=Aside0.mk (Kd.R_after (ok:=(fun k_=>some k_≠(.slice (some ⟨go12,0,none⟩) y189.length co12 : Value).ownBlock∧some k_≠(v201 : Value).ownBlock)) (by (with_reducible repeat (first|apply Kd.R_alloc|apply Kd.R_drewN|apply Kd.R_drew));exact Kd.R_mono HO185.out (fun _ hk=>⟨⟨hk.1.1.2,hk.1.2⟩,hk.2⟩)) hg hat)
              have n4_:=Aside0.mk (Kd.R_after (ok:=(fun k_=>some k_≠(.slice Ao299 t183.length co299 : Value).ownBlock∧some k_≠(v201 : Value).ownBlock)) (R_up HO191.out) hg hat)
              have n5_:=Aside0.mk (Kd.R_after (ok:=(fun k_=>some k_≠(.slice Ao299 t183.length co299 : Value).ownBlock∧some k_≠(.slice (some ⟨go12,0,none⟩) y189.length co12 : Value).ownBlock)) (by (with_reducible repeat (first|apply Kd.R_alloc|apply Kd.R_drewN|apply Kd.R_drew));exact Kd.R_mono HO202.out (fun _ hk=>⟨⟨hk.1.1.2,hk.1.2⟩,hk.2⟩)) hg hat)
              have n6_:=Aside0.mk (hb)
              have n7_:=Aside0.mk (ho)
              clear BK174
              clear HO178
              clear BK182
              clear HO185
              clear HO191
              clear HO202
              clear HB
              clear HO196
              have BK174:=n0_
              have HO178:=n1_
              have BK182:=n2_
              have HO185:=n3_
              have HO191:=n4_
              have HO202:=n5_
              have HB:=n6_
              have HO199:=n7_
              clear n0_ n1_ n2_ n3_ n4_ n5_ n6_ n7_
              clear ho hb hg hat
              refine hK.out _ _ ⟨(blk_cell BK182.out 0).trans rfl,(blk_cell BK182.out 1).trans rfl,(blk_cell BK182.out 2).trans rfl,(blk_cell BK182.out 3).trans rfl⟩ (fun hHeld=>?_)
              clear hK K
              refine norm_ (a':=?_) ?_ ?_
              rotate_left
              ·show Act.put _ (some 40) _=_
               simp only [Act.put,List.setIfInBounds_toArray,List.set_cons_zero,List.set_cons_succ,i64_w,i32_w]
               rfl
              exact norm_ (by simp only [putAll,Act.put,List.setIfInBounds_toArray,List.set_cons_zero,List.set_cons_succ]) (hCont (v195,v198,v201) _ ⟨hHeld,(R_up HO178.out),(by (with_reducible repeat (first|apply Kd.R_alloc|apply Kd.R_drewN|apply Kd.R_drew));exact Kd.R_mono HO185.out (fun _ hk=>⟨hk.1.1,⟨hk.2,hk.1.2⟩⟩)),(by (with_reducible repeat (first|apply Kd.R_alloc|apply Kd.R_drewN|apply Kd.R_drew));exact Kd.R_mono HO191.out (fun _ hk=>⟨hk.1.1,⟨hk.2,hk.1.2⟩⟩)),(R_up HO199.out),(by (with_reducible repeat (first|apply Kd.R_alloc|apply Kd.R_drewN|apply Kd.R_drew));exact Kd.R_mono HO202.out (fun _ hk=>⟨hk.1.1,⟨hk.1.2,hk.2⟩⟩)),(blk_up BK174.out),(blk_up BK182.out),(below_go HB.out)⟩)
            rintro ⟨v195,v198,v201⟩ w313 ⟨hS_,h0_,h1_,h2_,h3_,h4_,h5_,h6_,h7_⟩
            have n0_ : Aside0 (Kd.R (Kd.int .i64) 3 w313 w.heap.size (fun _=>True) (.slice Ao295 t176.length co295) t176):=⟨h0_⟩
            have n1_ : Aside0 (Kd.R k34 34 w313 w.heap.size (fun k_=>some k_≠(.slice (some ⟨go12,0,none⟩) y189.length co12 : Value).ownBlock∧some k_≠(v198 : Value).ownBlock∧some k_≠(v201 : Value).ownBlock) (.slice Ao299 t183.length co299) t183):=⟨h1_⟩
            have n2_ : Aside0 (Kd.R k34 34 w313 w.heap.size (fun k_=>some k_≠(.slice Ao299 t183.length co299 : Value).ownBlock∧some k_≠(v198 : Value).ownBlock∧some k_≠(v201 : Value).ownBlock) (.slice (some ⟨go12,0,none⟩) y189.length co12) y192):=⟨h2_⟩
            have n3_ : Aside0 (Kd.R k34 34 w313 w.heap.size (fun k_=>some k_≠(.slice Ao299 t183.length co299 : Value).ownBlock∧some k_≠(.slice (some ⟨go12,0,none⟩) y189.length co12 : Value).ownBlock∧some k_≠(v201 : Value).ownBlock) v198 y197):=⟨h3_⟩
            have n4_ : Aside0 (Kd.R k34 34 w313 w.heap.size (fun k_=>some k_≠(.slice Ao299 t183.length co299 : Value).ownBlock∧some k_≠(.slice (some ⟨go12,0,none⟩) y189.length co12 : Value).ownBlock∧some k_≠(v198 : Value).ownBlock) v201 y200):=⟨h4_⟩
            have n5_ : Aside0 (w313.heap[gb174]?=some (.cells #[.int .u8 a0_0,.int .u8 a0_1,.int .u8 a0_2,.int .u8 a0_3,.int .u8 a0_4,.int .u8 a0_5,.int .u8 a0_6,.int .u8 a0_7,.int .u8 a0_8,.int .u8 a0_9,.int .u8 a0_10,.int .u8 a0_11] 24 (0,0))):=⟨h5_⟩
            have n6_ : Aside0 (w313.heap[gb182]?=some (.cells #[.slice Ao295 t176.length co295,.int .i64 t179,.int .i64 t180,.int .i64 t181] 30 (0,0))):=⟨h6_⟩
            have n7_ : Aside0 (Below w.heap.size w w313):=⟨h7_⟩
            clear HO178
            clear HO185
            clear HO191
            clear BK174
            clear BK182
            clear HB
            clear h0_ h1_ h2_ h3_ h4_ h5_ h6_ h7_
            have HO178:=n0_
            have HO185:=n1_
            have HO191:=n2_
            have HO199:=n3_
            have HO202:=n4_
            have BK174:=n5_
            have BK182:=n6_
            have HB:=n7_
            clear n0_ n1_ n2_ n3_ n4_ n5_ n6_ n7_
            have hHeld : w313.cell? ⟨gb182,0,none⟩=some (.slice Ao295 t176.length co295)∧w313.cell? ⟨gb182,1,none⟩=some (.int .i64 t179)∧w313.cell? ⟨gb182,2,none⟩=some (.int .i64 t180)∧w313.cell? ⟨gb182,3,none⟩=some (.int .i64 t181):=hS_
            obtain ⟨Ao315,co315,eo315⟩:=Kd.R_slice HO202.out
            (first|subst eo315|(injection eo315 with f1_ f2_ f3_;have f4_:=f1_.symm;have f5_:=f3_.symm;clear f1_ f2_ f3_;subst f4_;subst f5_))
            refine norm_ (a':=?_) ?_ ?_
            rotate_left
            ·simp only [putAll,Act.put,List.setIfInBounds_toArray,List.set_cons_zero,List.set_cons_succ]
             rfl
            refine one_ (i:=6) (N:=some 43) #[true,true,true,true,true,true,true,false,false] rfl rfl (one_of HT_.out (by kernel_rfl)) (by decide) (fun K hK=>?_)
            refine Kd.R_append_rows_step k34 (w0:=w) w.heap.size (by rfl) (.tmp 40) (.tmp 42) 26 34 (.agg #[(.int .i64 0),(.string ⟨#[]⟩)]) 24 rfl Try.underlying26 info34 rfl (by decide) (by omega) v198 y197 y200 _ _ _ (fun k_=>some k_≠(.slice Ao299 t183.length co299 : Value).ownBlock∧some k_≠(.slice (some ⟨go12,0,none⟩) y189.length co12 : Value).ownBlock∧some k_≠(.slice Ao315 y200.length co315 : Value).ownBlock) (fun _=>False) rfl rfl ?aO ?aR (fun _ _ h=>h) (fun _ h=>h.elim) ?aF ?aB ?aS ?aL ?_
            (case aR=>repeat (first|exact (Kd.R_reads' HO202.out).2.2|(with_reducible refine Kd.C_alloc ?_ _)|(with_reducible refine Kd.C_drewN ?_ _)|(with_reducible refine Kd.C_drew ?_)))
            (case aB=>exact (below_go HB.out))
            (case aF=>exact (fun k_ hk=>⟨Kd.fresh' (Kd.R_lt (R_up HO185.out)) k_ hk,Kd.fresh' (Kd.R_lt (R_up HO191.out)) k_ hk,Kd.fresh' (Kd.R_lt (R_up HO202.out)) k_ hk⟩))
            (case aO=>exact (R_up HO199.out))
            (case aS=>exact (below_size (below_go HB.out)))
            (case aL=>have:=LMc15.out;omega)
            intro v204 w314 ho hb hg hat
            rw [← Ny203.out] at ho
            have n0_:=Aside0.mk (blk_grown (blk_up BK174.out) hg (Kd.R_ne HO199.out BK174.out (by decide)))
            have n1_:=Aside0.mk (Kd.R_over' (R_up HO178.out) (Kd.R_typed (R_up HO199.out)) (by decide) hg)
            have n2_:=Aside0.mk (blk_grown (blk_up BK182.out) hg (Kd.R_ne HO199.out BK182.out (by decide)))
            have n3_:=Aside0.mk (Kd.R_after (ok:=(fun k_=>some k_≠(.slice (some ⟨go12,0,none⟩) y189.length co12 : Value).ownBlock∧some k_≠(.slice Ao315 y200.length co315 : Value).ownBlock)) (by (with_reducible repeat (first|apply Kd.R_alloc|apply Kd.R_drewN|apply Kd.R_drew));exact Kd.R_mono HO185.out (fun _ hk=>⟨⟨hk.1,hk.2.2⟩,hk.2.1⟩)) hg hat)
            have n4_:=Aside0.mk (Kd.R_after (ok:=(fun k_=>some k_≠(.slice Ao299 t183.length co299 : Value).ownBlock∧some k_≠(.slice Ao315 y200.length co315 : Value).ownBlock)) (by (with_reducible repeat (first|apply Kd.R_alloc|apply Kd.R_drewN|apply Kd.R_drew));exact Kd.R_mono HO191.out (fun _ hk=>⟨⟨hk.1,hk.2.2⟩,hk.2.1⟩)) hg hat)
            have n5_:=Aside0.mk (Kd.R_after (ok:=(fun k_=>some k_≠(.slice Ao299 t183.length co299 : Value).ownBlock∧some k_≠(.slice (some ⟨go12,0,none⟩) y189.length co12 : Value).ownBlock)) (by (with_reducible repeat (first|apply Kd.R_alloc|apply Kd.R_drewN|apply Kd.R_drew));exact Kd.R_mono HO202.out (fun _ hk=>⟨⟨hk.1,hk.2.1⟩,hk.2.2⟩)) hg hat)
            have n6_:=Aside0.mk (hb)
            have n7_:=Aside0.mk (ho)
            clear BK174
            clear HO178
            clear BK182
            clear HO185
            clear HO191
            clear HO202
            clear HB
            clear HO199
            have BK174:=n0_
            have HO178:=n1_
            have BK182:=n2_
            have HO185:=n3_
            have HO191:=n4_
            have HO202:=n5_
            have HB:=n6_
            have HO205:=n7_
            clear n0_ n1_ n2_ n3_ n4_ n5_ n6_ n7_
            clear ho hb hg hat
            obtain ⟨Ao316,co316,eo316⟩:=Kd.R_slice HO205.out
            (first|subst eo316|(injection eo316 with f1_ f2_ f3_;have f4_:=f1_.symm;have f5_:=f3_.symm;clear f1_ f2_ f3_;subst f4_;subst f5_))
            refine hK.out _ _ ⟨(blk_cell BK182.out 0).trans rfl,(blk_cell BK182.out 1).trans rfl,(blk_cell BK182.out 2).trans rfl,(blk_cell BK182.out 3).trans rfl⟩ (fun hHeld=>?_)
            clear hK K
            refine norm_ (a':=?_) ?_ ?_
            rotate_left
            ·show Act.put _ (some 43) _=_
             simp only [Act.put,List.setIfInBounds_toArray,List.set_cons_zero,List.set_cons_succ,i64_w,i32_w]
             rfl
            refine one_ (i:=7) (N:=some 44) #[true,true,true,true,true,true,true,true,false] rfl rfl (one_of HT_.out (by kernel_rfl)) (by decide) (fun K hK=>?_)
            refine goes_ Try.func12 (by kernel_rfl) rfl #[.agg #[.slice Ao295 t176.length co295,.int .i64 t179,.int .i64 t180,.int .i64 t181],.slice Ao316 y203.length co316] (by rfl) rfl rfl (by (try simp only [List.map_toArray,List.map_cons,List.map_nil]);first|done|rfl|(simp only [List.length_drop,List.length_take];rfl)) ?_
            with_reducible refine (schema_Row.calls _ _ t176 t179 t180 t181 _ _ y203 t206 _ ?side1 ?side2 ?side3 ?side4 A16.out).mono ?_
            (case side1=>repeat (first|exact (Kd.R_reads' HO178.out).2.2|(with_reducible refine Kd.C_alloc ?_ _)|(with_reducible refine Kd.C_drewN ?_ _)|(with_reducible refine Kd.C_drew ?_)))
            (case side2=>exact (Kd.R_reads' HO178.out).2.1)
            (case side3=>repeat (first|exact (Kd.R_reads' HO205.out).2.2|(with_reducible refine Kd.C_alloc ?_ _)|(with_reducible refine Kd.C_drewN ?_ _)|(with_reducible refine Kd.C_drew ?_)))
            (case side4=>exact (Kd.R_reads' HO205.out).2.1)
            rintro e w317 ⟨rfl,hb⟩
            refine ⟨_,rfl,?_⟩
            have n0_:=Aside0.mk (Kd.R_below (R_up HO178.out) hb)
            have n1_:=Aside0.mk (Kd.R_below (R_up HO185.out) hb)
            have n2_:=Aside0.mk (Kd.R_below (R_up HO191.out) hb)
            have n3_:=Aside0.mk (Kd.R_below (R_up HO202.out) hb)
            have n4_:=Aside0.mk (Kd.R_below (R_up HO205.out) hb)
            have n5_:=Aside0.mk (blk_below (blk_up BK174.out) hb)
            have n6_:=Aside0.mk (blk_below (blk_up BK182.out) hb)
            have n7_:=Aside0.mk (below_step (below_go HB.out) hb)
            clear HO178
            clear HO185
            clear HO191
            clear HO202
            clear HO205
            clear BK174
            clear BK182
            clear HB
            have HO178:=n0_
            have HO185:=n1_
            have HO191:=n2_
            have HO202:=n3_
            have HO205:=n4_
            have BK174:=n5_
            have BK182:=n6_
            have HB:=n7_
            clear n0_ n1_ n2_ n3_ n4_ n5_ n6_ n7_
            (try clear hb)
            (try clear hb2)
            (try clear hk)
            (try clear hi)
            refine hK.out _ _ ⟨(blk_cell BK182.out 0).trans rfl,(blk_cell BK182.out 1).trans rfl,(blk_cell BK182.out 2).trans rfl,(blk_cell BK182.out 3).trans rfl⟩ (fun hHeld=>?_)
            clear hK K
            refine norm_ (a':=?_) ?_ ?_
            rotate_left
            ·show Act.put _ (some 44) _=_
             simp only [Act.put,List.setIfInBounds_toArray,List.set_cons_zero,List.set_cons_succ,i64_w,i32_w]
             rfl
            refine pure_ (i:=8) (N:=some 13) (v:=?_) (a':=?_) #[true,true,true,true,true,true,true,true,true] rfl rfl (any_of HT_.out (by kernel_rfl)) (fun _ _ _ h=>h) (Or.inl ⟨by rfl,?_⟩) ?_ ?_
            rotate_left;(intro w';go_simp;with_reducible rfl);rotate_left;(simp only [Act.put,List.setIfInBounds_toArray,List.set_cons_zero,List.set_cons_succ,i64_w,i32_w];rfl)
            refine done_ (done_of HT_.out (by kernel_rfl)) ?_
            (try clear hHeld)
            try go_wp2
            have n0_:=Aside0.mk (Kd.R_drew HO178.out)
            have n1_:=Aside0.mk (Kd.R_drew HO185.out)
            have n2_:=Aside0.mk (Kd.R_drew HO191.out)
            have n3_:=Aside0.mk (Kd.R_drew HO202.out)
            have n4_:=Aside0.mk (Kd.R_drew HO205.out)
            have n5_:=Aside0.mk (blk_drew BK174.out)
            have n6_:=Aside0.mk (blk_drew BK182.out)
            have n7_:=Aside0.mk (below_drew1 HB.out)
            clear HO178
            clear HO185
            clear HO191
            clear HO202
            clear HO205
            clear BK174
            clear BK182
            clear HB
            have HO178:=n0_
            have HO185:=n1_
            have HO191:=n2_
            have HO202:=n3_
            have HO205:=n4_
            have BK174:=n5_
            have BK182:=n6_
            have HB:=n7_
            clear n0_ n1_ n2_ n3_ n4_ n5_ n6_ n7_
            have q319 : ((ji17) : Int)≤((t183.length : Int) : Int):=of_decide_eq_true (by first|(with_reducible assumption)|assumption)
            obtain ⟨i0319,hi0319,_,hsz319,_⟩:=info_parts info34
            have hroom319 : t183.length≤co299:=(Kd.R_reads' HO185.out).2.1
            have hC319 : Kd.F k34 _ _ Ao299 t183.length t183:=(Kd.V_at (base:=w.heap.size) (Kd.R_V (Kd.R_types (Kd.R_types (Kd.R_apart' (HO185.out) (Kd.R_typed HO178.out) (by decide)) BK174.out (by decide)) BK182.out (by decide)))).2.2
            have hcut319:=cut_to (P:=Try.prog) 26 34 .i64 Try.underlying26 hi0319 Ao299 t183.length co299 (ji17) (of_decide_eq_true (by first|(with_reducible assumption)|assumption)) q319 hroom319
            have hr319:=Kd.F_take (m:=((ji17) : Int).toNat) hC319 (by omega)
            have hy319 : y207.length=((ji17) : Int).toNat:=(by rw [Ny207.out,List.length_take];omega)
            rw [← Ny207.out] at hr319
            rw [← hy319] at hcut319
            have HO211:=Aside0.mk (show Kd.V k34 34 _ w.heap.size _ (.slice Ao299 y207.length co299) y207 from Kd.V_mk (by omega) hr319)
            have HC211:=Aside0.mk (show y207.length≤co299 from by omega)
            clear hr319 hC319 hroom319 hi0319 hsz319
            have KY319:=Aside0.mk hy319
            clear hy319
            replace q319:=eq_true q319
            refine start_ (n:=8) (S:=fun w'=>w'.cell? ⟨gb182,0,none⟩=some (.slice Ao295 t176.length co295)∧w'.cell? ⟨gb182,1,none⟩=some (.int .i64 t179)∧w'.cell? ⟨gb182,2,none⟩=some (.int .i64 t180)∧w'.cell? ⟨gb182,3,none⟩=some (.int .i64 t181)) (ds:=[]) #[false,false,false,false,false,false,false,false] (by kernel_rfl) rfl rfl ⟨(blk_cell BK182.out 0).trans rfl,(blk_cell BK182.out 1).trans rfl,(blk_cell BK182.out 2).trans rfl,(blk_cell BK182.out 3).trans rfl⟩ (fun hHeld=>?_);refine with_tabW thresherlaw04_SchemaRows.tab9 thresherlaw04_SchemaRows.bits9 (fun HT_ HW_=>?_)
            generalize w317.drew=w318 at HO178 HO185 HO191 HO202 HO205 BK174 BK182 HB HO211 hHeld ⊢
            refine pure_ (i:=1) (N:=some 46) (v:=?_) (a':=?_) #[false,true,false,false,false,false,false,false] rfl rfl (any_of HT_.out (by kernel_rfl)) (fun _ _ _ h=>h) (Or.inl ⟨by rfl,?_⟩) ?_ ?_
            rotate_left;(intro w';go_simp;with_reducible rfl);rotate_left;(simp only [Act.put,List.setIfInBounds_toArray,List.set_cons_zero,List.set_cons_succ,i64_w,i32_w];rfl)
            refine pure_ (i:=2) (N:=some 47) (v:=?_) (a':=?_) #[false,true,true,false,false,false,false,false] rfl rfl (any_of HT_.out (by kernel_rfl)) (fun _ _ _ h=>h) (Or.inl ⟨by rfl,?_⟩) ?_ ?_
            rotate_left;(intro w';go_simp;with_reducible rfl);rotate_left;(simp only [Act.put,List.setIfInBounds_toArray,List.set_cons_zero,List.set_cons_succ,i64_w,i32_w];rfl)
            refine pure_ (i:=3) (N:=some 48) (v:=?_) (a':=?_) #[false,true,true,true,false,false,false,false] rfl rfl (any_of HT_.out (by kernel_rfl)) (fun _ _ _ h=>h) (Or.inl ⟨by rfl,?_⟩) ?_ ?_
            rotate_left;(intro w';go_simp;with_reducible rfl);rotate_left;(simp only [Act.put,List.setIfInBounds_toArray,List.set_cons_zero,List.set_cons_succ,i64_w,i32_w];rfl)
            refine pure_ (i:=4) (N:=some 49) (v:=?_) (a':=?_) #[false,true,true,true,true,false,false,false] rfl rfl (any_of HT_.out (by kernel_rfl)) (fun _ _ _ h=>h) (Or.inl ⟨by rfl,?_⟩) ?_ ?_
            rotate_left;(intro w';go_simp;with_reducible rfl);rotate_left;(simp only [Act.put,List.setIfInBounds_toArray,List.set_cons_zero,List.set_cons_succ,i64_w,i32_w];rfl)
            refine pure_ (i:=5) (N:=some 50) (v:=?_) (a':=?_) #[false,true,true,true,true,true,false,false] rfl rfl (any_of HT_.out (by kernel_rfl)) (fun _ _ _ h=>h) (Or.inl ⟨by rfl,?_⟩) ?_ ?_
            rotate_left;(intro w';go_simp;with_reducible rfl);rotate_left;(simp only [Act.put,List.setIfInBounds_toArray,List.set_cons_zero,List.set_cons_succ,i64_w,i32_w];rfl)
            refine take_ (i:=0) (N:=some 45) (v:=?_) (a':=?_) #[true,true,true,true,true,true,false,false] rfl rfl (take_ofW HT_.out HW_.out (by kernel_rfl)) (fun _ _ _ h=>h) (Or.inl ⟨by rfl,?_⟩) hHeld ?_ ?_
            rotate_left;(rintro w' ⟨s0,s1,s2,s3⟩;go_simp;with_reducible rfl);rotate_left;(simp only [Act.put,List.setIfInBounds_toArray,List.set_cons_zero,List.set_cons_succ,i64_w,i32_w];rfl)
            refine one_ (i:=6) (N:=some 51) #[true,true,true,true,true,true,true,false] rfl rfl (one_of HT_.out (by kernel_rfl)) (by decide) (fun K hK=>?_)
            refine goes_ Try.func12 (by kernel_rfl) rfl #[.agg #[.slice Ao295 t176.length co295,.int .i64 t179,.int .i64 t180,.int .i64 t181],.slice Ao299 y207.length co299] (by rfl) rfl rfl (by (try simp only [List.map_toArray,List.map_cons,List.map_nil]);first|done|rfl|(simp only [List.length_drop,List.length_take];rfl)) ?_
            with_reducible refine (schema_Row.calls _ _ t176 t179 t180 t181 _ _ y207 t212 _ ?side1 ?side2 ?side3 ?side4 A20.out).mono ?_
            (case side1=>repeat (first|exact (Kd.R_reads' HO178.out).2.2|(with_reducible refine Kd.C_alloc ?_ _)|(with_reducible refine Kd.C_drewN ?_ _)|(with_reducible refine Kd.C_drew ?_)))
            (case side2=>exact (Kd.R_reads' HO178.out).2.1)
            (case side3=>repeat (first|exact (Kd.V_reads' HO211.out).2.2|(with_reducible refine Kd.C_alloc ?_ _)|(with_reducible refine Kd.C_drewN ?_ _)|(with_reducible refine Kd.C_drew ?_)))
            (case side4=>exact (Kd.V_reads' HO211.out).2.1)
            rintro e w320 ⟨rfl,hb⟩
            refine ⟨_,rfl,?_⟩
            have n0_:=Aside0.mk (Kd.R_below (R_up HO178.out) hb)
            have n1_:=Aside0.mk (Kd.R_below (R_up HO185.out) hb)
            have n2_:=Aside0.mk (Kd.R_below (R_up HO191.out) hb)
            have n3_:=Aside0.mk (Kd.R_below (R_up HO202.out) hb)
            have n4_:=Aside0.mk (Kd.R_below (R_up HO205.out) hb)
            have n5_:=Aside0.mk (Kd.V_below (V_up HO211.out) hb)
            have n6_:=Aside0.mk (blk_below (blk_up BK174.out) hb)
            have n7_:=Aside0.mk (blk_below (blk_up BK182.out) hb)
            have n8_:=Aside0.mk (below_step (below_go HB.out) hb)
            clear HO178
            clear HO185
            clear HO191
            clear HO202
            clear HO205
            clear HO211
            clear BK174
            clear BK182
            clear HB
            have HO178:=n0_
            have HO185:=n1_
            have HO191:=n2_
            have HO202:=n3_
            have HO205:=n4_
            have HO211:=n5_
            have BK174:=n6_
            have BK182:=n7_
            have HB:=n8_
            clear n0_ n1_ n2_ n3_ n4_ n5_ n6_ n7_ n8_
            (try clear hb)
            (try clear hb2)
            (try clear hk)
            (try clear hi)
            refine hK.out _ _ ⟨(blk_cell BK182.out 0).trans rfl,(blk_cell BK182.out 1).trans rfl,(blk_cell BK182.out 2).trans rfl,(blk_cell BK182.out 3).trans rfl⟩ (fun hHeld=>?_)
            clear hK K
            refine norm_ (a':=?_) ?_ ?_
            rotate_left
            ·show Act.put _ (some 51) _=_
             simp only [Act.put,List.setIfInBounds_toArray,List.set_cons_zero,List.set_cons_succ,i64_w,i32_w]
             rfl
            refine pure_ (i:=7) (N:=some 14) (v:=?_) (a':=?_) #[true,true,true,true,true,true,true,true] rfl rfl (any_of HT_.out (by kernel_rfl)) (fun _ _ _ h=>h) (Or.inl ⟨by rfl,?_⟩) ?_ ?_
            rotate_left;(intro w';go_simp;with_reducible rfl);rotate_left;(simp only [Act.put,List.setIfInBounds_toArray,List.set_cons_zero,List.set_cons_succ,i64_w,i32_w];rfl)
            refine done_ (done_of HT_.out (by kernel_rfl)) ?_
            (try clear hHeld)
            have hcz321_0 : w320.cell? ⟨gb182,0,none⟩=some (.slice Ao295 t176.length co295):=(blk_cell BK182.out 0).trans rfl
            have hcz321_1 : w320.cell? ⟨gb182,1,none⟩=some (.int .i64 t179):=(blk_cell BK182.out 1).trans rfl
            have hcz321_2 : w320.cell? ⟨gb182,2,none⟩=some (.int .i64 t180):=(blk_cell BK182.out 2).trans rfl
            have hcz321_3 : w320.cell? ⟨gb182,3,none⟩=some (.int .i64 t181):=(blk_cell BK182.out 3).trans rfl
            have hfz321_0:=blk_frozen BK182.out 0
            have hfz321_1:=blk_frozen BK182.out 1
            have hfz321_2:=blk_frozen BK182.out 2
            have hfz321_3:=blk_frozen BK182.out 3
            try go_wp2_with (first|((with_reducible refine gate_callee (f:=12) rfl ?_);refine goesL_ (some 54) rfl rfl Try.func12 (by kernel_rfl) rfl #[.agg #[.slice Ao295 t176.length co295,.int .i64 t179,.int .i64 t180,.int .i64 t181],.slice (some ⟨go12,0,none⟩) y192.length co12] rfl (by (try simp only [List.map_toArray,List.map_cons,List.map_nil]);first|done|(rw [show y192.length=y189.length from (Kd.R_reads' HO191.out).1.symm] <;> rfl)|rfl|(simp only [List.length_drop,List.length_take];rfl)) ?_;(with_reducible refine (schema_Row.calls _ _ t176 t179 t180 t181 _ _ y192 t213 _ ?side1 ?side2 ?side3 ?side4 A21.out).mono ?_);(case side1=>repeat (first|exact (Kd.R_reads' HO178.out).2.2|(with_reducible refine Kd.C_alloc ?_ _)|(with_reducible refine Kd.C_drewN ?_ _)|(with_reducible refine Kd.C_drew ?_)));(case side2=>exact (Kd.R_reads' HO178.out).2.1);(case side3=>repeat (first|exact (Kd.R_reads' HO191.out).2.2|(with_reducible refine Kd.C_alloc ?_ _)|(with_reducible refine Kd.C_drewN ?_ _)|(with_reducible refine Kd.C_drew ?_)));(case side4=>rw [show y192.length=y189.length from (Kd.R_reads' HO191.out).1.symm];exact (Kd.R_reads' HO191.out).2.1);rintro e w322 ⟨rfl,hb⟩;refine ⟨_,rfl,?_⟩;have n0_:=Aside0.mk (Kd.R_below (R_up HO178.out) hb);have n1_:=Aside0.mk (Kd.R_below (R_up HO185.out) hb);have n2_:=Aside0.mk (Kd.R_below (R_up HO191.out) hb);have n3_:=Aside0.mk (Kd.R_below (R_up HO202.out) hb);have n4_:=Aside0.mk (Kd.R_below (R_up HO205.out) hb);have n5_:=Aside0.mk (Kd.V_below (V_up HO211.out) hb);have n6_:=Aside0.mk (blk_below (blk_up BK174.out) hb);have n7_:=Aside0.mk (blk_below (blk_up BK182.out) hb);have n8_:=Aside0.mk (below_step (below_go HB.out) hb);clear HO178;clear HO185;clear HO191;clear HO202;clear HO205;clear HO211;clear BK174;clear BK182;clear HB;have HO178:=n0_;have HO185:=n1_;have HO191:=n2_;have HO202:=n3_;have HO205:=n4_;have HO211:=n5_;have BK174:=n6_;have BK182:=n7_;have HB:=n8_;clear n0_ n1_ n2_ n3_ n4_ n5_ n6_ n7_ n8_;(try clear hb);(try clear hb2);(try clear hk);(try clear hi)))
            go_ret
            exact ⟨by first|rfl|(simp [errW_none,errW_some] <;> rfl)|(simp only [← hji9,← hji17];first|rfl|(simp [errW_none,errW_some] <;> rfl))|(simp [*,errW_none,errW_some] <;> rfl),by repeat (first|(with_reducible first|exact HB.out|apply below_alloc|apply pw_below_drewN|apply below_drew1|refine below_set ?_ GE174.out|refine below_set ?_ GE182.out)|exact HB.out)⟩
          ·rw [if_neg c19] at H
           exact absurd H (by simp)
         ·rw [if_neg c18] at H
          exact absurd H (by simp)
        ·rw [if_neg c15] at H
         exact absurd H (by simp)
       ·rw [if_neg c14] at H
        exact absurd H (by simp)
      ·rw [if_neg c11] at H
       exact absurd H (by simp)
     ·rw [if_neg c10] at H
      exact absurd H (by simp)
    ·rw [if_neg c8] at H
     exact absurd H (by simp)
end Go.Proofs.Ytkodpbellndelaa.P

