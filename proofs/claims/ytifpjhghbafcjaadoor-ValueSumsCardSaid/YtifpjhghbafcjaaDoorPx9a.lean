-- Written by wip/tools/myprint.py over the kit's print (a program's print; Lean checks it).
import Derived.Test.YtifpjhghbafcjaaDoorPx0
import Derived.Test.YtifpjhghbafcjaaDoorPx1
import Derived.Test.YtifpjhghbafcjaaDoorPx4
import Derived.Test.YtifpjhghbafcjaaDoorPx8
namespace Go.Proofs.YtifpjhghbafcjaaDoor.P
open Go.RowKit Go.Proofs.YtifpjhghbafcjaaDoorW.PrintWords Go.Proofs.YtifpjhghbafcjaaDoorW.PrintLast Go.Proofs.YtifpjhghbafcjaaDoorW.PrintMore
attribute [local go_sem] max2_int min2_int max_two min_two max_three min_three max_four min_four   -- for this text's walks alone
set_option linter.unusedVariables false
set_option linter.unusedSimpArgs false

attribute [local go_sem high] eqA23
/-! ### thresherlaw03_ValueSums: function 6 -/
def thresherlaw03_ValueSums.j0 : Nat→Bool→Option (Bool)
 | 0,_=>none
 | k + 1,x4=>some x4
def thresherlaw03_ValueSums.f (k : Nat) (a0 : Int) (a1_0 : Int) (a1_1 : ByteArray) (a1_2 : Int) (a1_3 : ByteArray) (a1_4 : Int) (a1_5 : ByteArray) : Option (Bool):=(thresherlaw03_shown.f k).bind fun t177=>((thresherlaw03_kind.f a0).bind fun t178=>((thresherlaw03_fit.f t178 a1_0 a1_1).bind fun bt179=>((thresherlaw03_fit.f t178 a1_2 a1_3).bind fun bt182=>((thresherlaw03_fit.f t178 a1_4 a1_5).bind fun bt185=>((value_Add.f k t178 bt179.1 bt179.2 bt182.1 bt182.2).bind fun bt188=>((value_Add.f k t178 bt188.1 bt188.2 bt185.1 bt185.2).bind fun bt190=>((value_Add.f k t178 bt182.1 bt182.2 bt185.1 bt185.2).bind fun bt193=>((value_Add.f k t178 bt179.1 bt179.2 bt193.1 bt193.2).bind fun bt195=>(if (!(bt190.1 == bt195.1) || (!(bt190.2.toList == bt195.2.toList)))=true then (some false) else (if t178=3 then (if t177=true then (some (bt190.1 == bt185.1 && (bt190.2.toList == bt185.2.toList))) else (some false)) else (if t177=true then ((value_Add.f k t178 bt179.1 bt179.2 bt182.1 bt182.2).bind fun bt198=>((value_Add.f k t178 bt182.1 bt182.2 bt179.1 bt179.2).bind fun bt200=>(if (bt198.1 == bt200.1 && (bt198.2.toList == bt200.2.toList))=true then ((value_Add.f k t178 bt179.1 bt179.2 bt182.1 bt182.2).bind fun bt202=>(if bt202.1=(wrap64 (bt179.1 + bt182.1)) then ((value_Add.f k t178 bt179.1 bt179.2 0 (⟨#[]⟩ : ByteArray)).bind fun bt204=>(thresherlaw03_ValueSums.j0 k (bt204.1 == bt179.1 && (bt204.2.toList == bt179.2.toList)))) else (thresherlaw03_ValueSums.j0 k false))) else (thresherlaw03_ValueSums.j0 k false)))) else (thresherlaw03_ValueSums.j0 k false))))))))))))
theorem thresherlaw03_ValueSums.mono_l : ∀ k,(∀ y0,LeO (thresherlaw03_ValueSums.j0 k y0) (thresherlaw03_ValueSums.j0 (k + 1) y0))
 | 0=>fun _ r h=>by simp [thresherlaw03_ValueSums.j0] at h
 | k + 1=>by
  have ih0:=thresherlaw03_ValueSums.mono_l k
  ·intro y0
   unfold thresherlaw03_ValueSums.j0
   repeat' first
   | (with_reducible exact ih0 _)
   | (with_reducible exact thresherlaw03_shown.mono _)
   | (with_reducible exact value_Add.mono _ _ _ _ _ _)
   | (with_reducible exact LeO.refl _)
   | (with_reducible exact LeO.none _)
   | (with_reducible refine LeO.ite ?_ ?_)
   | (with_reducible refine LeO.bind ?_ (fun _=>?_))
   | exact ih0 _
   | exact thresherlaw03_shown.mono _
   | exact value_Add.mono _ _ _ _ _ _
   | exact LeO.none _
   | refine LeO.ite ?_ ?_
   | refine LeO.bind ?_ (fun _=>?_)
theorem thresherlaw03_ValueSums.mono : ∀ a0 a1 a2 a3 a4 a5 a6 k,LeO (thresherlaw03_ValueSums.f k a0 a1 a2 a3 a4 a5 a6) (thresherlaw03_ValueSums.f (k + 1) a0 a1 a2 a3 a4 a5 a6):=by
 intro a0 a1 a2 a3 a4 a5 a6 k
 have ih0:=thresherlaw03_ValueSums.mono_l k
 unfold thresherlaw03_ValueSums.f
 repeat' first
   | (with_reducible exact ih0 _)
   | (with_reducible exact thresherlaw03_shown.mono _)
   | (with_reducible exact value_Add.mono _ _ _ _ _ _)
   | (with_reducible exact LeO.refl _)
   | (with_reducible exact LeO.none _)
   | (with_reducible refine LeO.ite ?_ ?_)
   | (with_reducible refine LeO.bind ?_ (fun _=>?_))
   | exact ih0 _
   | exact thresherlaw03_shown.mono _
   | exact value_Add.mono _ _ _ _ _ _
   | exact LeO.none _
   | refine LeO.ite ?_ ?_
   | refine LeO.bind ?_ (fun _=>?_)
def thresherlaw03_ValueSums.T6 : Bool × List (List Nat × List Nat):=(true,[([],[]),([],[]),([],[]),([],[]),([1,2,3],[1,2,3]),([],[]),([0,4,5,4],[0,4,5]),([],[]),([7,6,6,0,1,2,3,4,5,6,7],[6,7])])
def thresherlaw03_ValueSums.B6 : List Nat:=[0,0,0,0,14,0,63,0,255]
theorem thresherlaw03_ValueSums.tab6 : rtab .any (opsOf Tryd.f6 6)=thresherlaw03_ValueSums.T6:=by kernel_rfl
theorem thresherlaw03_ValueSums.bits6 : waitsOk thresherlaw03_ValueSums.T6.2 thresherlaw03_ValueSums.B6=true:=by kernel_rfl
def thresherlaw03_ValueSums.T7 : Bool × List (List Nat × List Nat):=(true,[([],[]),([],[]),([],[]),([],[]),([],[]),([2,3,4],[2,3,4]),([0,1,5,5],[0,1,5]),([],[]),([7,6,6,0,1,2,3,4,5,6,7],[6,7])])
def thresherlaw03_ValueSums.B7 : List Nat:=[0,0,0,0,0,28,63,0,255]
theorem thresherlaw03_ValueSums.tab7 : rtab .any (opsOf Tryd.f6 7)=thresherlaw03_ValueSums.T7:=by kernel_rfl
theorem thresherlaw03_ValueSums.bits7 : waitsOk thresherlaw03_ValueSums.T7.2 thresherlaw03_ValueSums.B7=true:=by kernel_rfl
def thresherlaw03_ValueSums.T12 : Bool × List (List Nat × List Nat):=(true,[([],[]),([0],[0]),([1],[1]),([1],[1]),([1],[1]),([2,3,4,1,1],[1,2,3,4]),([1],[1]),([1],[1]),([1],[1]),([6,7,8,5,1],[1,6,7,8]),([5,9,1],[1,5,9]),([1,10],[1,10]),([11,9],[11]),([12],[12]),([12],[12]),([12],[12]),([13,14,15,12,12],[12,13,14,15]),([16,12],[12,16]),([12],[12]),([18,12],[12,18]),([12],[12]),([20,12],[12,20]),([19,21,12],[12,19,21]),([17,22,12],[12,17,22]),([12,23],[12,23]),([24,16],[24]),([25],[25]),([25],[25]),([25],[25]),([26,27,28,25,25],[25,26,27,28]),([25],[25]),([29,30,25],[25,29,30]),([25,31],[25,31]),([32,29,0,1,2,3,4,5,6,7,8,9,10,11,12,13,14,15,16,17,18,19,20,21,22,23,24,25,26,27,28,29,30,31,32],[32])])
def thresherlaw03_ValueSums.B12 : List Nat:=[0,1,3,3,3,31,3,3,3,511,1023,2047,4095,8191,8191,8191,65535,131071,8191,270335,8191,1056767,3940351,8388607,16777215,33554431,67108863,67108863,67108863,536870911,67108863,2147483647,4294967295,8589934591]
theorem thresherlaw03_ValueSums.tab12 : rtab .any (opsOf Tryd.f6 12)=thresherlaw03_ValueSums.T12:=by kernel_rfl
theorem thresherlaw03_ValueSums.bits12 : waitsOk thresherlaw03_ValueSums.T12.2 thresherlaw03_ValueSums.B12=true:=by kernel_rfl
/-- What is shown in another file. -/
structure thresherlaw03_ValueSums.calls_later (P : Prop) : Prop where
  out : P
set_option maxHeartbeats 8000000 in
set_option maxRecDepth 100000 in
noncomputable def thresherlaw03_ValueSums.calls_part :
  (hP0_ : Prop) ×' (thresherlaw03_ValueSums.calls_later hP0_ → ∀ (k : Nat) (a0 : Int) (a1_0 : Int) (a1_1 : ByteArray) (a1_2 : Int) (a1_3 : ByteArray) (a1_4 : Int) (a1_5 : ByteArray) (r : Bool) (w : World) (h : thresherlaw03_ValueSums.f k a0 a1_0 a1_1 a1_2 a1_3 a1_4 a1_5=some r) (htab_ : Tabs w), Calls Tryd.prog 6 #[.int .u8 a0,.agg #[.int .i64 a1_0,.string a1_1,.int .i64 a1_2,.string a1_3,.int .i64 a1_4,.string a1_5]] w fun e w'=>e=.returned (.bool r)∧Below w.heap.size w w'):= by
 apply PSigma.mk
 · intro hp0_
   intro k a0 a1_0 a1_1 a1_2 a1_3 a1_4 a1_5 r w h htab_
   have HTAB_ := Aside0.mk htab_
   clear htab_
   have hfl_ : ∀ (n : Int) (s : ByteArray) (W : World), (Instr.field 23 (.agg #[.int .i64 n, .string s]) 0).run Tryd.prog W = .ok (.int .i64 n) W := fun _ _ _ => by kernel_rfl
   have hu24:=Tryd.underlying24
   have hu23:=Tryd.underlying23
   have HB:=Aside0.mk (Below.refl w.heap.size w)
   have H : ((thresherlaw03_shown.f k).bind fun t177=>((thresherlaw03_kind.f a0).bind fun t178=>((thresherlaw03_fit.f t178 a1_0 a1_1).bind fun bt179=>((thresherlaw03_fit.f t178 a1_2 a1_3).bind fun bt182=>((thresherlaw03_fit.f t178 a1_4 a1_5).bind fun bt185=>((value_Add.f k t178 bt179.1 bt179.2 bt182.1 bt182.2).bind fun bt188=>((value_Add.f k t178 bt188.1 bt188.2 bt185.1 bt185.2).bind fun bt190=>((value_Add.f k t178 bt182.1 bt182.2 bt185.1 bt185.2).bind fun bt193=>((value_Add.f k t178 bt179.1 bt179.2 bt193.1 bt193.2).bind fun bt195=>(if (!(bt190.1 == bt195.1) || (!(bt190.2.toList == bt195.2.toList)))=true then (some false) else (if t178=3 then (if t177=true then (some (bt190.1 == bt185.1 && (bt190.2.toList == bt185.2.toList))) else (some false)) else (if t177=true then ((value_Add.f k t178 bt179.1 bt179.2 bt182.1 bt182.2).bind fun bt198=>((value_Add.f k t178 bt182.1 bt182.2 bt179.1 bt179.2).bind fun bt200=>(if (bt198.1 == bt200.1 && (bt198.2.toList == bt200.2.toList))=true then ((value_Add.f k t178 bt179.1 bt179.2 bt182.1 bt182.2).bind fun bt202=>(if bt202.1=(wrap64 (bt179.1 + bt182.1)) then ((value_Add.f k t178 bt179.1 bt179.2 0 (⟨#[]⟩ : ByteArray)).bind fun bt204=>(thresherlaw03_ValueSums.j0 k (bt204.1 == bt179.1 && (bt204.2.toList == bt179.2.toList)))) else (thresherlaw03_ValueSums.j0 k false))) else (thresherlaw03_ValueSums.j0 k false)))) else (thresherlaw03_ValueSums.j0 k false)))))))))))))=some r:=h
   clear h
   replace H:=Option.bind_eq_some_iff.mp H
   obtain ⟨t177,A30,H⟩:=H
   replace H : ((thresherlaw03_kind.f a0).bind fun t178=>((thresherlaw03_fit.f t178 a1_0 a1_1).bind fun bt179=>((thresherlaw03_fit.f t178 a1_2 a1_3).bind fun bt182=>((thresherlaw03_fit.f t178 a1_4 a1_5).bind fun bt185=>((value_Add.f k t178 bt179.1 bt179.2 bt182.1 bt182.2).bind fun bt188=>((value_Add.f k t178 bt188.1 bt188.2 bt185.1 bt185.2).bind fun bt190=>((value_Add.f k t178 bt182.1 bt182.2 bt185.1 bt185.2).bind fun bt193=>((value_Add.f k t178 bt179.1 bt179.2 bt193.1 bt193.2).bind fun bt195=>(if (!(bt190.1 == bt195.1) || (!(bt190.2.toList == bt195.2.toList)))=true then (some false) else (if t178=3 then (if t177=true then (some (bt190.1 == bt185.1 && (bt190.2.toList == bt185.2.toList))) else (some false)) else (if t177=true then ((value_Add.f k t178 bt179.1 bt179.2 bt182.1 bt182.2).bind fun bt198=>((value_Add.f k t178 bt182.1 bt182.2 bt179.1 bt179.2).bind fun bt200=>(if (bt198.1 == bt200.1 && (bt198.2.toList == bt200.2.toList))=true then ((value_Add.f k t178 bt179.1 bt179.2 bt182.1 bt182.2).bind fun bt202=>(if bt202.1=(wrap64 (bt179.1 + bt182.1)) then ((value_Add.f k t178 bt179.1 bt179.2 0 (⟨#[]⟩ : ByteArray)).bind fun bt204=>(thresherlaw03_ValueSums.j0 k (bt204.1 == bt179.1 && (bt204.2.toList == bt179.2.toList)))) else (thresherlaw03_ValueSums.j0 k false))) else (thresherlaw03_ValueSums.j0 k false)))) else (thresherlaw03_ValueSums.j0 k false))))))))))))=some r:=H
   have A3:=Aside0.mk A30
   clear A30
   replace H:=Option.bind_eq_some_iff.mp H
   obtain ⟨t178,A40,H⟩:=H
   replace H : ((thresherlaw03_fit.f t178 a1_0 a1_1).bind fun bt179=>((thresherlaw03_fit.f t178 a1_2 a1_3).bind fun bt182=>((thresherlaw03_fit.f t178 a1_4 a1_5).bind fun bt185=>((value_Add.f k t178 bt179.1 bt179.2 bt182.1 bt182.2).bind fun bt188=>((value_Add.f k t178 bt188.1 bt188.2 bt185.1 bt185.2).bind fun bt190=>((value_Add.f k t178 bt182.1 bt182.2 bt185.1 bt185.2).bind fun bt193=>((value_Add.f k t178 bt179.1 bt179.2 bt193.1 bt193.2).bind fun bt195=>(if (!(bt190.1 == bt195.1) || (!(bt190.2.toList == bt195.2.toList)))=true then (some false) else (if t178=3 then (if t177=true then (some (bt190.1 == bt185.1 && (bt190.2.toList == bt185.2.toList))) else (some false)) else (if t177=true then ((value_Add.f k t178 bt179.1 bt179.2 bt182.1 bt182.2).bind fun bt198=>((value_Add.f k t178 bt182.1 bt182.2 bt179.1 bt179.2).bind fun bt200=>(if (bt198.1 == bt200.1 && (bt198.2.toList == bt200.2.toList))=true then ((value_Add.f k t178 bt179.1 bt179.2 bt182.1 bt182.2).bind fun bt202=>(if bt202.1=(wrap64 (bt179.1 + bt182.1)) then ((value_Add.f k t178 bt179.1 bt179.2 0 (⟨#[]⟩ : ByteArray)).bind fun bt204=>(thresherlaw03_ValueSums.j0 k (bt204.1 == bt179.1 && (bt204.2.toList == bt179.2.toList)))) else (thresherlaw03_ValueSums.j0 k false))) else (thresherlaw03_ValueSums.j0 k false)))) else (thresherlaw03_ValueSums.j0 k false)))))))))))=some r:=H
   have A4:=Aside0.mk A40
   clear A40
   replace H:=Option.bind_eq_some_iff.mp H
   obtain ⟨⟨t179,t180⟩,A50,H⟩:=H
   replace H : ((thresherlaw03_fit.f t178 a1_2 a1_3).bind fun bt182=>((thresherlaw03_fit.f t178 a1_4 a1_5).bind fun bt185=>((value_Add.f k t178 t179 t180 bt182.1 bt182.2).bind fun bt188=>((value_Add.f k t178 bt188.1 bt188.2 bt185.1 bt185.2).bind fun bt190=>((value_Add.f k t178 bt182.1 bt182.2 bt185.1 bt185.2).bind fun bt193=>((value_Add.f k t178 t179 t180 bt193.1 bt193.2).bind fun bt195=>(if (!(bt190.1 == bt195.1) || (!(bt190.2.toList == bt195.2.toList)))=true then (some false) else (if t178=3 then (if t177=true then (some (bt190.1 == bt185.1 && (bt190.2.toList == bt185.2.toList))) else (some false)) else (if t177=true then ((value_Add.f k t178 t179 t180 bt182.1 bt182.2).bind fun bt198=>((value_Add.f k t178 bt182.1 bt182.2 t179 t180).bind fun bt200=>(if (bt198.1 == bt200.1 && (bt198.2.toList == bt200.2.toList))=true then ((value_Add.f k t178 t179 t180 bt182.1 bt182.2).bind fun bt202=>(if bt202.1=(wrap64 (t179 + bt182.1)) then ((value_Add.f k t178 t179 t180 0 (⟨#[]⟩ : ByteArray)).bind fun bt204=>(thresherlaw03_ValueSums.j0 k (bt204.1 == t179 && (bt204.2.toList == t180.toList)))) else (thresherlaw03_ValueSums.j0 k false))) else (thresherlaw03_ValueSums.j0 k false)))) else (thresherlaw03_ValueSums.j0 k false))))))))))=some r:=H
   have A5:=Aside0.mk A50
   clear A50
   replace H:=Option.bind_eq_some_iff.mp H
   obtain ⟨⟨t182,t183⟩,A60,H⟩:=H
   replace H : ((thresherlaw03_fit.f t178 a1_4 a1_5).bind fun bt185=>((value_Add.f k t178 t179 t180 t182 t183).bind fun bt188=>((value_Add.f k t178 bt188.1 bt188.2 bt185.1 bt185.2).bind fun bt190=>((value_Add.f k t178 t182 t183 bt185.1 bt185.2).bind fun bt193=>((value_Add.f k t178 t179 t180 bt193.1 bt193.2).bind fun bt195=>(if (!(bt190.1 == bt195.1) || (!(bt190.2.toList == bt195.2.toList)))=true then (some false) else (if t178=3 then (if t177=true then (some (bt190.1 == bt185.1 && (bt190.2.toList == bt185.2.toList))) else (some false)) else (if t177=true then ((value_Add.f k t178 t179 t180 t182 t183).bind fun bt198=>((value_Add.f k t178 t182 t183 t179 t180).bind fun bt200=>(if (bt198.1 == bt200.1 && (bt198.2.toList == bt200.2.toList))=true then ((value_Add.f k t178 t179 t180 t182 t183).bind fun bt202=>(if bt202.1=(wrap64 (t179 + t182)) then ((value_Add.f k t178 t179 t180 0 (⟨#[]⟩ : ByteArray)).bind fun bt204=>(thresherlaw03_ValueSums.j0 k (bt204.1 == t179 && (bt204.2.toList == t180.toList)))) else (thresherlaw03_ValueSums.j0 k false))) else (thresherlaw03_ValueSums.j0 k false)))) else (thresherlaw03_ValueSums.j0 k false)))))))))=some r:=H
   have A6:=Aside0.mk A60
   clear A60
   replace H:=Option.bind_eq_some_iff.mp H
   obtain ⟨⟨t185,t186⟩,A70,H⟩:=H
   replace H : ((value_Add.f k t178 t179 t180 t182 t183).bind fun bt188=>((value_Add.f k t178 bt188.1 bt188.2 t185 t186).bind fun bt190=>((value_Add.f k t178 t182 t183 t185 t186).bind fun bt193=>((value_Add.f k t178 t179 t180 bt193.1 bt193.2).bind fun bt195=>(if (!(bt190.1 == bt195.1) || (!(bt190.2.toList == bt195.2.toList)))=true then (some false) else (if t178=3 then (if t177=true then (some (bt190.1 == t185 && (bt190.2.toList == t186.toList))) else (some false)) else (if t177=true then ((value_Add.f k t178 t179 t180 t182 t183).bind fun bt198=>((value_Add.f k t178 t182 t183 t179 t180).bind fun bt200=>(if (bt198.1 == bt200.1 && (bt198.2.toList == bt200.2.toList))=true then ((value_Add.f k t178 t179 t180 t182 t183).bind fun bt202=>(if bt202.1=(wrap64 (t179 + t182)) then ((value_Add.f k t178 t179 t180 0 (⟨#[]⟩ : ByteArray)).bind fun bt204=>(thresherlaw03_ValueSums.j0 k (bt204.1 == t179 && (bt204.2.toList == t180.toList)))) else (thresherlaw03_ValueSums.j0 k false))) else (thresherlaw03_ValueSums.j0 k false)))) else (thresherlaw03_ValueSums.j0 k false))))))))=some r:=H
   have A7:=Aside0.mk A70
   clear A70
   replace H:=Option.bind_eq_some_iff.mp H
   obtain ⟨⟨t188,t189⟩,A80,H⟩:=H
   replace H : ((value_Add.f k t178 t188 t189 t185 t186).bind fun bt190=>((value_Add.f k t178 t182 t183 t185 t186).bind fun bt193=>((value_Add.f k t178 t179 t180 bt193.1 bt193.2).bind fun bt195=>(if (!(bt190.1 == bt195.1) || (!(bt190.2.toList == bt195.2.toList)))=true then (some false) else (if t178=3 then (if t177=true then (some (bt190.1 == t185 && (bt190.2.toList == t186.toList))) else (some false)) else (if t177=true then ((value_Add.f k t178 t179 t180 t182 t183).bind fun bt198=>((value_Add.f k t178 t182 t183 t179 t180).bind fun bt200=>(if (bt198.1 == bt200.1 && (bt198.2.toList == bt200.2.toList))=true then ((value_Add.f k t178 t179 t180 t182 t183).bind fun bt202=>(if bt202.1=(wrap64 (t179 + t182)) then ((value_Add.f k t178 t179 t180 0 (⟨#[]⟩ : ByteArray)).bind fun bt204=>(thresherlaw03_ValueSums.j0 k (bt204.1 == t179 && (bt204.2.toList == t180.toList)))) else (thresherlaw03_ValueSums.j0 k false))) else (thresherlaw03_ValueSums.j0 k false)))) else (thresherlaw03_ValueSums.j0 k false)))))))=some r:=H
   have A8:=Aside0.mk A80
   clear A80
   replace H:=Option.bind_eq_some_iff.mp H
   obtain ⟨⟨t190,t191⟩,A90,H⟩:=H
   replace H : ((value_Add.f k t178 t182 t183 t185 t186).bind fun bt193=>((value_Add.f k t178 t179 t180 bt193.1 bt193.2).bind fun bt195=>(if (!(t190 == bt195.1) || (!(t191.toList == bt195.2.toList)))=true then (some false) else (if t178=3 then (if t177=true then (some (t190 == t185 && (t191.toList == t186.toList))) else (some false)) else (if t177=true then ((value_Add.f k t178 t179 t180 t182 t183).bind fun bt198=>((value_Add.f k t178 t182 t183 t179 t180).bind fun bt200=>(if (bt198.1 == bt200.1 && (bt198.2.toList == bt200.2.toList))=true then ((value_Add.f k t178 t179 t180 t182 t183).bind fun bt202=>(if bt202.1=(wrap64 (t179 + t182)) then ((value_Add.f k t178 t179 t180 0 (⟨#[]⟩ : ByteArray)).bind fun bt204=>(thresherlaw03_ValueSums.j0 k (bt204.1 == t179 && (bt204.2.toList == t180.toList)))) else (thresherlaw03_ValueSums.j0 k false))) else (thresherlaw03_ValueSums.j0 k false)))) else (thresherlaw03_ValueSums.j0 k false))))))=some r:=H
   have A9:=Aside0.mk A90
   clear A90
   replace H:=Option.bind_eq_some_iff.mp H
   obtain ⟨⟨t193,t194⟩,A100,H⟩:=H
   replace H : ((value_Add.f k t178 t179 t180 t193 t194).bind fun bt195=>(if (!(t190 == bt195.1) || (!(t191.toList == bt195.2.toList)))=true then (some false) else (if t178=3 then (if t177=true then (some (t190 == t185 && (t191.toList == t186.toList))) else (some false)) else (if t177=true then ((value_Add.f k t178 t179 t180 t182 t183).bind fun bt198=>((value_Add.f k t178 t182 t183 t179 t180).bind fun bt200=>(if (bt198.1 == bt200.1 && (bt198.2.toList == bt200.2.toList))=true then ((value_Add.f k t178 t179 t180 t182 t183).bind fun bt202=>(if bt202.1=(wrap64 (t179 + t182)) then ((value_Add.f k t178 t179 t180 0 (⟨#[]⟩ : ByteArray)).bind fun bt204=>(thresherlaw03_ValueSums.j0 k (bt204.1 == t179 && (bt204.2.toList == t180.toList)))) else (thresherlaw03_ValueSums.j0 k false))) else (thresherlaw03_ValueSums.j0 k false)))) else (thresherlaw03_ValueSums.j0 k false)))))=some r:=H
   have A10:=Aside0.mk A100
   clear A100
   replace H:=Option.bind_eq_some_iff.mp H
   obtain ⟨⟨t195,t196⟩,A110,H⟩:=H
   replace H : (if (!(t190 == t195) || (!(t191.toList == t196.toList)))=true then (some false) else (if t178=3 then (if t177=true then (some (t190 == t185 && (t191.toList == t186.toList))) else (some false)) else (if t177=true then ((value_Add.f k t178 t179 t180 t182 t183).bind fun bt198=>((value_Add.f k t178 t182 t183 t179 t180).bind fun bt200=>(if (bt198.1 == bt200.1 && (bt198.2.toList == bt200.2.toList))=true then ((value_Add.f k t178 t179 t180 t182 t183).bind fun bt202=>(if bt202.1=(wrap64 (t179 + t182)) then ((value_Add.f k t178 t179 t180 0 (⟨#[]⟩ : ByteArray)).bind fun bt204=>(thresherlaw03_ValueSums.j0 k (bt204.1 == t179 && (bt204.2.toList == t180.toList)))) else (thresherlaw03_ValueSums.j0 k false))) else (thresherlaw03_ValueSums.j0 k false)))) else (thresherlaw03_ValueSums.j0 k false))))=some r:=H
   have A11:=Aside0.mk A110
   clear A110
   by_cases c12 : (!(t190 == t195) || (!(t191.toList == t196.toList)))=true
   ·rw [if_pos c12] at H
    have c12b0 : (!(t190 == t195) || (!(t191.toList == t196.toList)))=true:=c12
    clear c12
    obtain rfl:=Option.some.inj H
    go_enter Tryd.func6,Tryd.ntmps6
    try go_wp2_with (first|((with_reducible refine gate_dst (N:=3) rfl ?_);refine box_event ?hg (N:=3) ?hd (cs:=#[.int .i64 a1_0,.string a1_1,.int .i64 a1_2,.string a1_3,.int .i64 a1_4,.string a1_5]) (t:=24) ?hr ?_;(case hd=>rfl);(case hg=>rfl);(case hr=>first|(go_simp;done)|(go_simp;rfl));intro gb176 hg w13 hbox hb;have n0_:=Aside0.mk (below_step (below_up HB.out) hb);have n1_:=Aside0.mk (hbox);have n2_:=Aside0.mk ((by rw [hg];exact (below_size (below_up HB.out)) : w.heap.size≤gb176));have n3_:=Aside0.mk ((by rw [hg];exact (below_size (below_up HB.out)) : w.heap.size≤gb176));clear HB;have HB:=n0_;have BK176:=n1_;have GW176:=n2_;have GE176:=n3_;clear n0_ n1_ n2_ n3_;clear hb hbox hg)|((with_reducible refine gate_callee (f:=9) rfl ?_);refine goesL_ (some 12) rfl rfl Tryd.func9 (by kernel_rfl) rfl #[] rfl (by (try simp only [List.map_toArray,List.map_cons,List.map_nil]);first|done|rfl|(simp only [List.length_drop,List.length_take];rfl)) ?_;(with_reducible refine (thresherlaw03_shown.calls k  t177 _ A3.out (HTAB_.out.on (below_go HB.out))).mono ?_);rintro e w14 ⟨rfl,hb⟩;refine ⟨_,rfl,?_⟩;have n0_:=Aside0.mk (blk_below (blk_up BK176.out) hb);have n1_:=Aside0.mk (below_step (below_go HB.out) hb);clear BK176;clear HB;have BK176:=n0_;have HB:=n1_;clear n0_ n1_;(try clear hb);(try clear hb2);(try clear hk);(try clear hi))|((with_reducible refine gate_callee (f:=10) rfl ?_);refine goesL_ (some 14) rfl rfl Tryd.func10 (by kernel_rfl) rfl #[.int .u8 a0] rfl (by (try simp only [List.map_toArray,List.map_cons,List.map_nil]);first|done|rfl|(simp only [List.length_drop,List.length_take];rfl)) ?_;(with_reducible refine (thresherlaw03_kind.calls a0 t178 _ A4.out).mono ?_);rintro e w' ⟨rfl,⟨nd,rfl⟩⟩;refine ⟨_,rfl,?_⟩;(try (rw [drewN_self w14];generalize hq_ : World.drewN w14 _=w14;have n0_ : Aside0 (w14.heap[gb176]?=some (.cells #[.int .i64 a1_0,.string a1_1,.int .i64 a1_2,.string a1_3,.int .i64 a1_4,.string a1_5] 24 (0,0))):=⟨by rw [← hq_];exact (blk_up BK176.out)⟩;have n1_ : Aside0 (Below w.heap.size w w14):=⟨by rw [← hq_];exact (below_go HB.out)⟩;clear BK176 HB hq_;have BK176:=n0_;have HB:=n1_;clear n0_ n1_));have hcz15_0 : w14.cell? ⟨gb176,0,none⟩=some (.int .i64 a1_0):=(blk_cell BK176.out 0).trans rfl;have hcz15_1 : w14.cell? ⟨gb176,1,none⟩=some (.string a1_1):=(blk_cell BK176.out 1).trans rfl;have hcz15_2 : w14.cell? ⟨gb176,2,none⟩=some (.int .i64 a1_2):=(blk_cell BK176.out 2).trans rfl;have hcz15_3 : w14.cell? ⟨gb176,3,none⟩=some (.string a1_3):=(blk_cell BK176.out 3).trans rfl;have hcz15_4 : w14.cell? ⟨gb176,4,none⟩=some (.int .i64 a1_4):=(blk_cell BK176.out 4).trans rfl;have hcz15_5 : w14.cell? ⟨gb176,5,none⟩=some (.string a1_5):=(blk_cell BK176.out 5).trans rfl;have hfz15_0:=blk_frozen BK176.out 0;have hfz15_1:=blk_frozen BK176.out 1;have hfz15_2:=blk_frozen BK176.out 2;have hfz15_3:=blk_frozen BK176.out 3;have hfz15_4:=blk_frozen BK176.out 4;have hfz15_5:=blk_frozen BK176.out 5)|((with_reducible refine gate_callee (f:=11) rfl ?_);refine goesL_ (some 18) rfl rfl Tryd.func11 (by kernel_rfl) rfl #[.int .i64 t178,.agg #[.int .i64 a1_0,.string a1_1]] rfl (by (try simp only [List.map_toArray,List.map_cons,List.map_nil]);first|done|rfl|(simp only [List.length_drop,List.length_take];rfl)) ?_;(with_reducible refine (thresherlaw03_fit.calls t178 a1_0 a1_1 t179 t180 _ A5.out).mono ?_);rintro e w16 ⟨rfl,hb⟩;refine ⟨_,rfl,?_⟩;have n0_:=Aside0.mk (blk_below (blk_up BK176.out) hb);have n1_:=Aside0.mk (below_step (below_go HB.out) hb);clear BK176;clear HB;have BK176:=n0_;have HB:=n1_;clear n0_ n1_;(try clear hb);(try clear hb2);(try clear hk);(try clear hi))|((with_reducible refine gate_dst (N:=7) rfl ?_);refine box_event ?hg (N:=7) ?hd (cs:=#[.int .i64 0,.string (⟨#[]⟩ : ByteArray)]) (t:=23) ?hr ?_;(case hd=>rfl);(case hg=>rfl);(case hr=>first|(go_simp;done)|(go_simp;rfl));intro gb181 hg w17 hbox hb;have n0_:=Aside0.mk (blk_below (blk_up BK176.out) hb);have n1_:=Aside0.mk (below_step (below_go HB.out) hb);have n2_:=Aside0.mk (hbox);have n3_:=Aside0.mk ((by rw [hg];exact (below_size (below_go HB.out)) : w.heap.size≤gb181));have n4_:=Aside0.mk ((by rw [hg];exact (below_size (below_go HB.out)) : w.heap.size≤gb181));have n5_:=Aside0.mk ((by rw [hg];exact Nat.ne_of_lt (blk_lt (blk_up BK176.out)) : gb176≠gb181));have n6_:=Aside0.mk ((by rw [hg];exact Nat.ne_of_gt (blk_lt (blk_up BK176.out)) : gb181≠gb176));clear BK176;clear HB;have BK176:=n0_;have HB:=n1_;have BK181:=n2_;have GW181:=n3_;have GE181:=n4_;have NB176_181:=n5_;have NB181_176:=n6_;clear n0_ n1_ n2_ n3_ n4_ n5_ n6_;clear hb hbox hg;have hnb18:=NB181_176.out;have hnc18:=NB176_181.out;have hcz19_0 : w17.cell? ⟨gb181,0,none⟩=some (.int .i64 0):=(blk_cell BK181.out 0).trans rfl;have hcz19_1 : w17.cell? ⟨gb181,1,none⟩=some (.string (⟨#[]⟩ : ByteArray)):=(blk_cell BK181.out 1).trans rfl;have hfz19_0:=blk_frozen BK181.out 0;have hfz19_1:=blk_frozen BK181.out 1;have hcz20_0 : w17.cell? ⟨gb176,0,none⟩=some (.int .i64 a1_0):=(blk_cell BK176.out 0).trans rfl;have hcz20_1 : w17.cell? ⟨gb176,1,none⟩=some (.string a1_1):=(blk_cell BK176.out 1).trans rfl;have hcz20_2 : w17.cell? ⟨gb176,2,none⟩=some (.int .i64 a1_2):=(blk_cell BK176.out 2).trans rfl;have hcz20_3 : w17.cell? ⟨gb176,3,none⟩=some (.string a1_3):=(blk_cell BK176.out 3).trans rfl;have hcz20_4 : w17.cell? ⟨gb176,4,none⟩=some (.int .i64 a1_4):=(blk_cell BK176.out 4).trans rfl;have hcz20_5 : w17.cell? ⟨gb176,5,none⟩=some (.string a1_5):=(blk_cell BK176.out 5).trans rfl;have hfz20_0:=blk_frozen BK176.out 0;have hfz20_1:=blk_frozen BK176.out 1;have hfz20_2:=blk_frozen BK176.out 2;have hfz20_3:=blk_frozen BK176.out 3;have hfz20_4:=blk_frozen BK176.out 4;have hfz20_5:=blk_frozen BK176.out 5)|((with_reducible refine gate_callee (f:=11) rfl ?_);refine goesL_ (some 22) rfl rfl Tryd.func11 (by kernel_rfl) rfl #[.int .i64 t178,.agg #[.int .i64 a1_2,.string a1_3]] rfl (by (try simp only [List.map_toArray,List.map_cons,List.map_nil]);first|done|rfl|(simp only [List.length_drop,List.length_take];rfl)) ?_;(with_reducible refine (thresherlaw03_fit.calls t178 a1_2 a1_3 t182 t183 _ A6.out).mono ?_);rintro e w21 ⟨rfl,hb⟩;refine ⟨_,rfl,?_⟩;have n0_:=Aside0.mk (blk_below (g:=gb176) (o:=.cells #[.int .i64 a1_0,.string a1_1,.int .i64 a1_2,.string a1_3,.int .i64 a1_4,.string a1_5] 24 (0,0)) (by (with_reducible repeat (first|refine blk_drewN ?_ _|refine blk_drew ?_|refine blk_alloc ?_ _));refine blk_far ?_ NB176_181.out _;(with_reducible repeat (first|refine blk_drewN ?_ _|refine blk_drew ?_|refine blk_alloc ?_ _));refine blk_far ?_ NB176_181.out _;(with_reducible repeat (first|refine blk_drewN ?_ _|refine blk_drew ?_|refine blk_alloc ?_ _));exact BK176.out) hb);have n1_:=Aside0.mk (blk_below (g:=gb181) (o:=.cells #[.int .i64 t179,.string t180] 23 (0,0)) (by (with_reducible repeat (first|refine blk_drewN ?_ _|refine blk_drew ?_|refine blk_alloc ?_ _));refine blk_put (cs:=#[.int .i64 t179,.string (⟨#[]⟩ : ByteArray)]) ?_ 1 _ rfl;(with_reducible repeat (first|refine blk_drewN ?_ _|refine blk_drew ?_|refine blk_alloc ?_ _));refine blk_put (cs:=#[.int .i64 0,.string (⟨#[]⟩ : ByteArray)]) ?_ 0 _ rfl;(with_reducible repeat (first|refine blk_drewN ?_ _|refine blk_drew ?_|refine blk_alloc ?_ _));exact BK181.out) hb);have n2_:=Aside0.mk (below_step (below_go HB.out) hb);clear BK176;clear BK181;clear HB;have BK176:=n0_;have BK181:=n1_;have HB:=n2_;clear n0_ n1_ n2_;(try clear hb);(try clear hb2);(try clear hk);(try clear hi))|((with_reducible refine gate_dst (N:=8) rfl ?_);refine box_event ?hg (N:=8) ?hd (cs:=#[.int .i64 0,.string (⟨#[]⟩ : ByteArray)]) (t:=23) ?hr ?_;(case hd=>rfl);(case hg=>rfl);(case hr=>first|(go_simp;done)|(go_simp;rfl));intro gb184 hg w22 hbox hb;have n0_:=Aside0.mk (blk_below (blk_up BK176.out) hb);have n1_:=Aside0.mk (blk_below (blk_up BK181.out) hb);have n2_:=Aside0.mk (below_step (below_go HB.out) hb);have n3_:=Aside0.mk (hbox);have n4_:=Aside0.mk ((by rw [hg];exact (below_size (below_go HB.out)) : w.heap.size≤gb184));have n5_:=Aside0.mk ((by rw [hg];exact (below_size (below_go HB.out)) : w.heap.size≤gb184));have n6_:=Aside0.mk ((by rw [hg];exact Nat.ne_of_lt (blk_lt (blk_up BK176.out)) : gb176≠gb184));have n7_:=Aside0.mk ((by rw [hg];exact Nat.ne_of_gt (blk_lt (blk_up BK176.out)) : gb184≠gb176));have n8_:=Aside0.mk ((by rw [hg];exact Nat.ne_of_lt (blk_lt (blk_up BK181.out)) : gb181≠gb184));have n9_:=Aside0.mk ((by rw [hg];exact Nat.ne_of_gt (blk_lt (blk_up BK181.out)) : gb184≠gb181));clear BK176;clear BK181;clear HB;have BK176:=n0_;have BK181:=n1_;have HB:=n2_;have BK184:=n3_;have GW184:=n4_;have GE184:=n5_;have NB176_184:=n6_;have NB184_176:=n7_;have NB181_184:=n8_;have NB184_181:=n9_;clear n0_ n1_ n2_ n3_ n4_ n5_ n6_ n7_ n8_ n9_;clear hb hbox hg;have hnb23:=NB184_176.out;have hnc23:=NB176_184.out;have hnb24:=NB184_181.out;have hnc24:=NB181_184.out;have hcz25_0 : w22.cell? ⟨gb184,0,none⟩=some (.int .i64 0):=(blk_cell BK184.out 0).trans rfl;have hcz25_1 : w22.cell? ⟨gb184,1,none⟩=some (.string (⟨#[]⟩ : ByteArray)):=(blk_cell BK184.out 1).trans rfl;have hfz25_0:=blk_frozen BK184.out 0;have hfz25_1:=blk_frozen BK184.out 1;have hcz26_0 : w22.cell? ⟨gb176,0,none⟩=some (.int .i64 a1_0):=(blk_cell BK176.out 0).trans rfl;have hcz26_1 : w22.cell? ⟨gb176,1,none⟩=some (.string a1_1):=(blk_cell BK176.out 1).trans rfl;have hcz26_2 : w22.cell? ⟨gb176,2,none⟩=some (.int .i64 a1_2):=(blk_cell BK176.out 2).trans rfl;have hcz26_3 : w22.cell? ⟨gb176,3,none⟩=some (.string a1_3):=(blk_cell BK176.out 3).trans rfl;have hcz26_4 : w22.cell? ⟨gb176,4,none⟩=some (.int .i64 a1_4):=(blk_cell BK176.out 4).trans rfl;have hcz26_5 : w22.cell? ⟨gb176,5,none⟩=some (.string a1_5):=(blk_cell BK176.out 5).trans rfl;have hfz26_0:=blk_frozen BK176.out 0;have hfz26_1:=blk_frozen BK176.out 1;have hfz26_2:=blk_frozen BK176.out 2;have hfz26_3:=blk_frozen BK176.out 3;have hfz26_4:=blk_frozen BK176.out 4;have hfz26_5:=blk_frozen BK176.out 5)|((with_reducible refine gate_callee (f:=11) rfl ?_);refine goesL_ (some 26) rfl rfl Tryd.func11 (by kernel_rfl) rfl #[.int .i64 t178,.agg #[.int .i64 a1_4,.string a1_5]] rfl (by (try simp only [List.map_toArray,List.map_cons,List.map_nil]);first|done|rfl|(simp only [List.length_drop,List.length_take];rfl)) ?_;(with_reducible refine (thresherlaw03_fit.calls t178 a1_4 a1_5 t185 t186 _ A7.out).mono ?_);rintro e w27 ⟨rfl,hb⟩;refine ⟨_,rfl,?_⟩;have n0_:=Aside0.mk (blk_below (g:=gb176) (o:=.cells #[.int .i64 a1_0,.string a1_1,.int .i64 a1_2,.string a1_3,.int .i64 a1_4,.string a1_5] 24 (0,0)) (by (with_reducible repeat (first|refine blk_drewN ?_ _|refine blk_drew ?_|refine blk_alloc ?_ _));refine blk_far ?_ NB176_184.out _;(with_reducible repeat (first|refine blk_drewN ?_ _|refine blk_drew ?_|refine blk_alloc ?_ _));refine blk_far ?_ NB176_184.out _;(with_reducible repeat (first|refine blk_drewN ?_ _|refine blk_drew ?_|refine blk_alloc ?_ _));exact BK176.out) hb);have n1_:=Aside0.mk (blk_below (g:=gb181) (o:=.cells #[.int .i64 t179,.string t180] 23 (0,0)) (by (with_reducible repeat (first|refine blk_drewN ?_ _|refine blk_drew ?_|refine blk_alloc ?_ _));refine blk_far ?_ NB181_184.out _;(with_reducible repeat (first|refine blk_drewN ?_ _|refine blk_drew ?_|refine blk_alloc ?_ _));refine blk_far ?_ NB181_184.out _;(with_reducible repeat (first|refine blk_drewN ?_ _|refine blk_drew ?_|refine blk_alloc ?_ _));exact BK181.out) hb);have n2_:=Aside0.mk (blk_below (g:=gb184) (o:=.cells #[.int .i64 t182,.string t183] 23 (0,0)) (by (with_reducible repeat (first|refine blk_drewN ?_ _|refine blk_drew ?_|refine blk_alloc ?_ _));refine blk_put (cs:=#[.int .i64 t182,.string (⟨#[]⟩ : ByteArray)]) ?_ 1 _ rfl;(with_reducible repeat (first|refine blk_drewN ?_ _|refine blk_drew ?_|refine blk_alloc ?_ _));refine blk_put (cs:=#[.int .i64 0,.string (⟨#[]⟩ : ByteArray)]) ?_ 0 _ rfl;(with_reducible repeat (first|refine blk_drewN ?_ _|refine blk_drew ?_|refine blk_alloc ?_ _));exact BK184.out) hb);have n3_:=Aside0.mk (below_step (below_go HB.out) hb);clear BK176;clear BK181;clear BK184;clear HB;have BK176:=n0_;have BK181:=n1_;have BK184:=n2_;have HB:=n3_;clear n0_ n1_ n2_ n3_;(try clear hb);(try clear hb2);(try clear hk);(try clear hi))|((with_reducible refine gate_dst (N:=9) rfl ?_);refine box_event ?hg (N:=9) ?hd (cs:=#[.int .i64 0,.string (⟨#[]⟩ : ByteArray)]) (t:=23) ?hr ?_;(case hd=>rfl);(case hg=>rfl);(case hr=>first|(go_simp;done)|(go_simp;rfl));intro gb187 hg w28 hbox hb;have n0_:=Aside0.mk (blk_below (blk_up BK176.out) hb);have n1_:=Aside0.mk (blk_below (blk_up BK181.out) hb);have n2_:=Aside0.mk (blk_below (blk_up BK184.out) hb);have n3_:=Aside0.mk (below_step (below_go HB.out) hb);have n4_:=Aside0.mk (hbox);have n5_:=Aside0.mk ((by rw [hg];exact (below_size (below_go HB.out)) : w.heap.size≤gb187));have n6_:=Aside0.mk ((by rw [hg];exact (below_size (below_go HB.out)) : w.heap.size≤gb187));have n7_:=Aside0.mk ((by rw [hg];exact Nat.ne_of_lt (blk_lt (blk_up BK176.out)) : gb176≠gb187));have n8_:=Aside0.mk ((by rw [hg];exact Nat.ne_of_gt (blk_lt (blk_up BK176.out)) : gb187≠gb176));have n9_:=Aside0.mk ((by rw [hg];exact Nat.ne_of_lt (blk_lt (blk_up BK181.out)) : gb181≠gb187));have n10_:=Aside0.mk ((by rw [hg];exact Nat.ne_of_gt (blk_lt (blk_up BK181.out)) : gb187≠gb181));have n11_:=Aside0.mk ((by rw [hg];exact Nat.ne_of_lt (blk_lt (blk_up BK184.out)) : gb184≠gb187));have n12_:=Aside0.mk ((by rw [hg];exact Nat.ne_of_gt (blk_lt (blk_up BK184.out)) : gb187≠gb184));clear BK176;clear BK181;clear BK184;clear HB;have BK176:=n0_;have BK181:=n1_;have BK184:=n2_;have HB:=n3_;have BK187:=n4_;have GW187:=n5_;have GE187:=n6_;have NB176_187:=n7_;have NB187_176:=n8_;have NB181_187:=n9_;have NB187_181:=n10_;have NB184_187:=n11_;have NB187_184:=n12_;clear n0_ n1_ n2_ n3_ n4_ n5_ n6_ n7_ n8_ n9_ n10_ n11_ n12_;clear hb hbox hg;have hnb29:=NB187_176.out;have hnc29:=NB176_187.out;have hnb30:=NB187_181.out;have hnc30:=NB181_187.out;have hnb31:=NB187_184.out;have hnc31:=NB184_187.out;have hcz32_0 : w28.cell? ⟨gb187,0,none⟩=some (.int .i64 0):=(blk_cell BK187.out 0).trans rfl;have hcz32_1 : w28.cell? ⟨gb187,1,none⟩=some (.string (⟨#[]⟩ : ByteArray)):=(blk_cell BK187.out 1).trans rfl;have hfz32_0:=blk_frozen BK187.out 0;have hfz32_1:=blk_frozen BK187.out 1))
    have n0_ : Aside0 (((w28.setCell ⟨gb187,0,none⟩ (.int .i64 t185)).setCell ⟨gb187,1,none⟩ (.string t186)).heap[gb176]?=some (.cells #[.int .i64 a1_0,.string a1_1,.int .i64 a1_2,.string a1_3,.int .i64 a1_4,.string a1_5] 24 (0,0))):=⟨by (with_reducible repeat (first|refine blk_drewN ?_ _|refine blk_drew ?_|refine blk_alloc ?_ _));refine blk_far ?_ NB176_187.out _;(with_reducible repeat (first|refine blk_drewN ?_ _|refine blk_drew ?_|refine blk_alloc ?_ _));refine blk_far ?_ NB176_187.out _;(with_reducible repeat (first|refine blk_drewN ?_ _|refine blk_drew ?_|refine blk_alloc ?_ _));exact BK176.out⟩
    have n1_ : Aside0 (((w28.setCell ⟨gb187,0,none⟩ (.int .i64 t185)).setCell ⟨gb187,1,none⟩ (.string t186)).heap[gb181]?=some (.cells #[.int .i64 t179,.string t180] 23 (0,0))):=⟨by (with_reducible repeat (first|refine blk_drewN ?_ _|refine blk_drew ?_|refine blk_alloc ?_ _));refine blk_far ?_ NB181_187.out _;(with_reducible repeat (first|refine blk_drewN ?_ _|refine blk_drew ?_|refine blk_alloc ?_ _));refine blk_far ?_ NB181_187.out _;(with_reducible repeat (first|refine blk_drewN ?_ _|refine blk_drew ?_|refine blk_alloc ?_ _));exact BK181.out⟩
    have n2_ : Aside0 (((w28.setCell ⟨gb187,0,none⟩ (.int .i64 t185)).setCell ⟨gb187,1,none⟩ (.string t186)).heap[gb184]?=some (.cells #[.int .i64 t182,.string t183] 23 (0,0))):=⟨by (with_reducible repeat (first|refine blk_drewN ?_ _|refine blk_drew ?_|refine blk_alloc ?_ _));refine blk_far ?_ NB184_187.out _;(with_reducible repeat (first|refine blk_drewN ?_ _|refine blk_drew ?_|refine blk_alloc ?_ _));refine blk_far ?_ NB184_187.out _;(with_reducible repeat (first|refine blk_drewN ?_ _|refine blk_drew ?_|refine blk_alloc ?_ _));exact BK184.out⟩
    have n3_ : Aside0 (((w28.setCell ⟨gb187,0,none⟩ (.int .i64 t185)).setCell ⟨gb187,1,none⟩ (.string t186)).heap[gb187]?=some (.cells #[.int .i64 t185,.string t186] 23 (0,0))):=⟨by (with_reducible repeat (first|refine blk_drewN ?_ _|refine blk_drew ?_|refine blk_alloc ?_ _));refine blk_put (cs:=#[.int .i64 t185,.string (⟨#[]⟩ : ByteArray)]) ?_ 1 _ rfl;(with_reducible repeat (first|refine blk_drewN ?_ _|refine blk_drew ?_|refine blk_alloc ?_ _));refine blk_put (cs:=#[.int .i64 0,.string (⟨#[]⟩ : ByteArray)]) ?_ 0 _ rfl;(with_reducible repeat (first|refine blk_drewN ?_ _|refine blk_drew ?_|refine blk_alloc ?_ _));exact BK187.out⟩
    have n4_ : Aside0 (Below w.heap.size w ((w28.setCell ⟨gb187,0,none⟩ (.int .i64 t185)).setCell ⟨gb187,1,none⟩ (.string t186))):=⟨by repeat (first|(with_reducible first|exact HB.out|apply below_alloc|apply pw_below_drewN|apply below_drew1|refine below_set ?_ GE176.out|refine below_set ?_ GE181.out|refine below_set ?_ GE184.out|refine below_set ?_ GE187.out)|exact HB.out)⟩
    (try clear BK176)
    (try clear BK181)
    (try clear BK184)
    (try clear BK187)
    (try clear HB)
    generalize ((w28.setCell ⟨gb187,0,none⟩ (.int .i64 t185)).setCell ⟨gb187,1,none⟩ (.string t186))=w33 at n0_ n1_ n2_ n3_ n4_ ⊢
    have BK176:=n0_
    have BK181:=n1_
    have BK184:=n2_
    have BK187:=n3_
    have HB:=n4_
    clear n0_ n1_ n2_ n3_ n4_
    have n0_:=Aside0.mk (blk_drew BK176.out)
    have n1_:=Aside0.mk (blk_drew BK181.out)
    have n2_:=Aside0.mk (blk_drew BK184.out)
    have n3_:=Aside0.mk (blk_drew BK187.out)
    have n4_:=Aside0.mk (below_drew1 HB.out)
    clear BK176
    clear BK181
    clear BK184
    clear BK187
    clear HB
    have BK176:=n0_
    have BK181:=n1_
    have BK184:=n2_
    have BK187:=n3_
    have HB:=n4_
    clear n0_ n1_ n2_ n3_ n4_
    refine start_ (n:=9) (S:=fun w'=>w'.cell? ⟨gb181,0,none⟩=some (.int .i64 t179)∧w'.cell? ⟨gb181,1,none⟩=some (.string t180)∧w'.cell? ⟨gb184,0,none⟩=some (.int .i64 t182)∧w'.cell? ⟨gb184,1,none⟩=some (.string t183)∧w'.cell? ⟨gb187,0,none⟩=some (.int .i64 t185)∧w'.cell? ⟨gb187,1,none⟩=some (.string t186)) (ds:=[]) #[false,false,false,false,false,false,false,false,false] (by kernel_rfl) rfl rfl ⟨(blk_cell BK181.out 0).trans rfl,(blk_cell BK181.out 1).trans rfl,(blk_cell BK184.out 0).trans rfl,(blk_cell BK184.out 1).trans rfl,(blk_cell BK187.out 0).trans rfl,(blk_cell BK187.out 1).trans rfl⟩ (fun hHeld=>?_);refine with_tabW thresherlaw03_ValueSums.tab6 thresherlaw03_ValueSums.bits6 (fun HT_ HW_=>?_)
    generalize w33.drew=w34 at BK176 BK181 BK184 BK187 HB hHeld ⊢
    refine pure_ (i:=0) (N:=some 27) (v:=?_) (a':=?_) #[true,false,false,false,false,false,false,false,false] rfl rfl (any_of HT_.out (by kernel_rfl)) (fun _ _ _ h=>h) (Or.inl ⟨by rfl,?_⟩) ?_ ?_
    rotate_left;(intro w';go_simp;with_reducible rfl);rotate_left;(simp only [Act.put,List.setIfInBounds_toArray,List.set_cons_zero,List.set_cons_succ,i64_w,i32_w];rfl)
    refine pure_ (i:=1) (N:=some 28) (v:=?_) (a':=?_) #[true,true,false,false,false,false,false,false,false] rfl rfl (any_of HT_.out (by kernel_rfl)) (fun _ _ _ h=>h) (Or.inl ⟨by rfl,?_⟩) ?_ ?_
    rotate_left;(intro w';go_simp;with_reducible rfl);rotate_left;(simp only [Act.put,List.setIfInBounds_toArray,List.set_cons_zero,List.set_cons_succ,i64_w,i32_w];rfl)
    refine take_ (i:=2) (N:=some 29) (v:=?_) (a':=?_) #[true,true,true,false,false,false,false,false,false] rfl rfl (take_ofW HT_.out HW_.out (by kernel_rfl)) (fun _ _ _ h=>h) (Or.inl ⟨by rfl,?_⟩) hHeld ?_ ?_
    rotate_left;(rintro w' ⟨s0,s1,s2,s3,s4,s5⟩;go_simp;with_reducible rfl);rotate_left;(simp only [Act.put,List.setIfInBounds_toArray,List.set_cons_zero,List.set_cons_succ,i64_w,i32_w];rfl)
    refine take_ (i:=3) (N:=some 30) (v:=?_) (a':=?_) #[true,true,true,true,false,false,false,false,false] rfl rfl (take_ofW HT_.out HW_.out (by kernel_rfl)) (fun _ _ _ h=>h) (Or.inl ⟨by rfl,?_⟩) hHeld ?_ ?_
    rotate_left;(rintro w' ⟨s0,s1,s2,s3,s4,s5⟩;go_simp;with_reducible rfl);rotate_left;(simp only [Act.put,List.setIfInBounds_toArray,List.set_cons_zero,List.set_cons_succ,i64_w,i32_w];rfl)
    refine take_ (i:=5) (N:=some 32) (v:=?_) (a':=?_) #[true,true,true,true,false,true,false,false,false] rfl rfl (take_ofW HT_.out HW_.out (by kernel_rfl)) (fun _ _ _ h=>h) (Or.inl ⟨by rfl,?_⟩) hHeld ?_ ?_
    rotate_left;(rintro w' ⟨s0,s1,s2,s3,s4,s5⟩;go_simp;with_reducible rfl);rotate_left;(simp only [Act.put,List.setIfInBounds_toArray,List.set_cons_zero,List.set_cons_succ,i64_w,i32_w];rfl)
    refine join_ (σ:=Nat) 1 #[true,true,true,true,true,true,true,true,false] (fun s_=>[(31,.agg #[.int .i64 t188,.string t189]),(33,.agg #[.int .i64 t190,.string t191]),(10,.pointer (some ⟨s_,0,none⟩))]) (fun s_ w'=>(w'.cell? ⟨gb181,0,none⟩=some (.int .i64 t179)∧w'.cell? ⟨gb181,1,none⟩=some (.string t180)∧w'.cell? ⟨gb184,0,none⟩=some (.int .i64 t182)∧w'.cell? ⟨gb184,1,none⟩=some (.string t183)∧w'.cell? ⟨gb187,0,none⟩=some (.int .i64 t185)∧w'.cell? ⟨gb187,1,none⟩=some (.string t186))∧(w'.heap[gb176]?=some (.cells #[.int .i64 a1_0,.string a1_1,.int .i64 a1_2,.string a1_3,.int .i64 a1_4,.string a1_5] 24 (0,0)))∧(w'.heap[gb181]?=some (.cells #[.int .i64 t179,.string t180] 23 (0,0)))∧(w'.heap[gb184]?=some (.cells #[.int .i64 t182,.string t183] 23 (0,0)))∧(w'.heap[gb187]?=some (.cells #[.int .i64 t185,.string t186] 23 (0,0)))∧(w'.heap[s_]?=some (.cells #[.int .i64 0,.string (⟨#[]⟩ : ByteArray)] 23 (0,0)))∧(w.heap.size≤s_)∧(w.heap.size≤s_)∧(gb176≠s_)∧(s_≠gb176)∧(gb181≠s_)∧(s_≠gb181)∧(gb184≠s_)∧(s_≠gb184)∧(gb187≠s_)∧(s_≠gb187)∧(Below w.heap.size w w')) ?_ ?_
    rotate_left
    ·intro hCont
     refine two_ (i:=4) (j:=7) (Ni:=some 31) (Nj:=some 10) #[true,true,true,true,true,true,false,false,false] #[true,true,true,true,false,true,false,true,false] rfl rfl rfl rfl (two_of HT_.out (by kernel_rfl)) (by decide) (by decide) (fun K hK=>?_) (fun K hK=>?_)
     ·skip
      refine goes_ Tryd.func14 (by kernel_rfl) rfl #[.int .i64 t178,.agg #[.int .i64 t179,.string t180],.agg #[.int .i64 t182,.string t183]] (by rfl) rfl rfl (by (try simp only [List.map_toArray,List.map_cons,List.map_nil]);first|done|rfl|(simp only [List.length_drop,List.length_take];rfl)) ?_
      with_reducible refine (value_Add.calls k t178 t179 t180 t182 t183 t188 t189 _ A8.out).mono ?_
      rintro e w35 ⟨rfl,hb⟩
      refine ⟨_,rfl,?_⟩
      have n0_:=Aside0.mk (blk_below (blk_up BK176.out) hb)
      have n1_:=Aside0.mk (blk_below (blk_up BK181.out) hb)
      have n2_:=Aside0.mk (blk_below (blk_up BK184.out) hb)
      have n3_:=Aside0.mk (blk_below (blk_up BK187.out) hb)
      have n4_:=Aside0.mk (below_step (below_go HB.out) hb)
      clear BK176
      clear BK181
      clear BK184
      clear BK187
      clear HB
      have BK176:=n0_
      have BK181:=n1_
      have BK184:=n2_
      have BK187:=n3_
      have HB:=n4_
      clear n0_ n1_ n2_ n3_ n4_
      (try clear hb)
      (try clear hb2)
      (try clear hk)
      (try clear hi)
      refine hK.out _ _ ⟨(blk_cell BK181.out 0).trans rfl,(blk_cell BK181.out 1).trans rfl,(blk_cell BK184.out 0).trans rfl,(blk_cell BK184.out 1).trans rfl,(blk_cell BK187.out 0).trans rfl,(blk_cell BK187.out 1).trans rfl⟩ (fun hHeld=>?_)
      clear hK K
      refine norm_ (a':=?_) ?_ ?_
      rotate_left
      ·show Act.put _ (some 31) _=_
       simp only [Act.put,List.setIfInBounds_toArray,List.set_cons_zero,List.set_cons_succ,i64_w,i32_w]
       rfl
      refine two_ (i:=6) (j:=7) (Ni:=some 33) (Nj:=some 10) #[true,true,true,true,true,true,true,false,false] #[true,true,true,true,true,true,false,true,false] rfl rfl rfl rfl (two_of HT_.out (by kernel_rfl)) (by decide) (by decide) (fun K hK=>?_) (fun K hK=>?_)
      ·skip
       refine goes_ Tryd.func14 (by kernel_rfl) rfl #[.int .i64 t178,.agg #[.int .i64 t188,.string t189],.agg #[.int .i64 t185,.string t186]] (by rfl) rfl rfl (by (try simp only [List.map_toArray,List.map_cons,List.map_nil]);first|done|rfl|(simp only [List.length_drop,List.length_take];rfl)) ?_
       with_reducible refine (value_Add.calls k t178 t188 t189 t185 t186 t190 t191 _ A9.out).mono ?_
       rintro e w36 ⟨rfl,hb⟩
       refine ⟨_,rfl,?_⟩
       have n0_:=Aside0.mk (blk_below (blk_up BK176.out) hb)
       have n1_:=Aside0.mk (blk_below (blk_up BK181.out) hb)
       have n2_:=Aside0.mk (blk_below (blk_up BK184.out) hb)
       have n3_:=Aside0.mk (blk_below (blk_up BK187.out) hb)
       have n4_:=Aside0.mk (below_step (below_go HB.out) hb)
       clear BK176
       clear BK181
       clear BK184
       clear BK187
       clear HB
       have BK176:=n0_
       have BK181:=n1_
       have BK184:=n2_
       have BK187:=n3_
       have HB:=n4_
       clear n0_ n1_ n2_ n3_ n4_
       (try clear hb)
       (try clear hb2)
       (try clear hk)
       (try clear hi)
       refine hK.out _ _ ⟨(blk_cell BK181.out 0).trans rfl,(blk_cell BK181.out 1).trans rfl,(blk_cell BK184.out 0).trans rfl,(blk_cell BK184.out 1).trans rfl,(blk_cell BK187.out 0).trans rfl,(blk_cell BK187.out 1).trans rfl⟩ (fun hHeld=>?_)
       clear hK K
       refine norm_ (a':=?_) ?_ ?_
       rotate_left
       ·show Act.put _ (some 33) _=_
        simp only [Act.put,List.setIfInBounds_toArray,List.set_cons_zero,List.set_cons_succ,i64_w,i32_w]
        rfl
       refine one_ (i:=7) (N:=some 10) #[true,true,true,true,true,true,true,true,false] rfl rfl (one_of HT_.out (by kernel_rfl)) (by decide) (fun K hK=>?_)
       refine box_step ?hg (N:=10) ?hd (cs:=#[.int .i64 0,.string (⟨#[]⟩ : ByteArray)]) (t:=23) ?hr ?_;(case hd=>rfl);(case hg=>rfl);(case hr=>first|(go_simp;done)|(go_simp;rfl))
       intro gb192 hg w37 hbox hb
       have n0_:=Aside0.mk (blk_below (blk_up BK176.out) hb)
       have n1_:=Aside0.mk (blk_below (blk_up BK181.out) hb)
       have n2_:=Aside0.mk (blk_below (blk_up BK184.out) hb)
       have n3_:=Aside0.mk (blk_below (blk_up BK187.out) hb)
       have n4_:=Aside0.mk (below_step (below_go HB.out) hb)
       have n5_:=Aside0.mk (hbox)
       have n6_:=Aside0.mk ((by rw [hg];exact (below_size (below_go HB.out)) : w.heap.size≤gb192))
       have n7_:=Aside0.mk ((by rw [hg];exact (below_size (below_go HB.out)) : w.heap.size≤gb192))
       have n8_:=Aside0.mk ((by rw [hg];exact Nat.ne_of_lt (blk_lt (blk_up BK176.out)) : gb176≠gb192))
       have n9_:=Aside0.mk ((by rw [hg];exact Nat.ne_of_gt (blk_lt (blk_up BK176.out)) : gb192≠gb176))
       have n10_:=Aside0.mk ((by rw [hg];exact Nat.ne_of_lt (blk_lt (blk_up BK181.out)) : gb181≠gb192))
       have n11_:=Aside0.mk ((by rw [hg];exact Nat.ne_of_gt (blk_lt (blk_up BK181.out)) : gb192≠gb181))
       have n12_:=Aside0.mk ((by rw [hg];exact Nat.ne_of_lt (blk_lt (blk_up BK184.out)) : gb184≠gb192))
       have n13_:=Aside0.mk ((by rw [hg];exact Nat.ne_of_gt (blk_lt (blk_up BK184.out)) : gb192≠gb184))
       have n14_:=Aside0.mk ((by rw [hg];exact Nat.ne_of_lt (blk_lt (blk_up BK187.out)) : gb187≠gb192))
       have n15_:=Aside0.mk ((by rw [hg];exact Nat.ne_of_gt (blk_lt (blk_up BK187.out)) : gb192≠gb187))
       clear BK176
       clear BK181
       clear BK184
       clear BK187
       clear HB
       have BK176:=n0_
       have BK181:=n1_
       have BK184:=n2_
       have BK187:=n3_
       have HB:=n4_
       have BK192:=n5_
       have GW192:=n6_
       have GE192:=n7_
       have NB176_192:=n8_
       have NB192_176:=n9_
       have NB181_192:=n10_
       have NB192_181:=n11_
       have NB184_192:=n12_
       have NB192_184:=n13_
       have NB187_192:=n14_
       have NB192_187:=n15_
       clear n0_ n1_ n2_ n3_ n4_ n5_ n6_ n7_ n8_ n9_ n10_ n11_ n12_ n13_ n14_ n15_
       clear hb hbox hg
       refine hK.out _ _ ⟨(blk_cell BK181.out 0).trans rfl,(blk_cell BK181.out 1).trans rfl,(blk_cell BK184.out 0).trans rfl,(blk_cell BK184.out 1).trans rfl,(blk_cell BK187.out 0).trans rfl,(blk_cell BK187.out 1).trans rfl⟩ (fun hHeld=>?_)
       clear hK K
       refine norm_ (a':=?_) ?_ ?_
       rotate_left
       ·show Act.put _ (some 10) _=_
        simp only [Act.put,List.setIfInBounds_toArray,List.set_cons_zero,List.set_cons_succ,i64_w,i32_w]
        rfl
       exact norm_ (by simp only [putAll,Act.put,List.setIfInBounds_toArray,List.set_cons_zero,List.set_cons_succ]) (hCont (gb192) _ ⟨hHeld,(blk_up BK176.out),(blk_up BK181.out),(blk_up BK184.out),(blk_up BK187.out),(blk_up BK192.out),GW192.out,GE192.out,NB176_192.out,NB192_176.out,NB181_192.out,NB192_181.out,NB184_192.out,NB192_184.out,NB187_192.out,NB192_187.out,(below_go HB.out)⟩)
      ·skip
       refine box_step ?hg (N:=10) ?hd (cs:=#[.int .i64 0,.string (⟨#[]⟩ : ByteArray)]) (t:=23) ?hr ?_;(case hd=>rfl);(case hg=>rfl);(case hr=>first|(go_simp;done)|(go_simp;rfl))
       intro gb192 hg w36 hbox hb
       have n0_:=Aside0.mk (blk_below (blk_up BK176.out) hb)
       have n1_:=Aside0.mk (blk_below (blk_up BK181.out) hb)
       have n2_:=Aside0.mk (blk_below (blk_up BK184.out) hb)
       have n3_:=Aside0.mk (blk_below (blk_up BK187.out) hb)
       have n4_:=Aside0.mk (below_step (below_go HB.out) hb)
       have n5_:=Aside0.mk (hbox)
       have n6_:=Aside0.mk ((by rw [hg];exact (below_size (below_go HB.out)) : w.heap.size≤gb192))
       have n7_:=Aside0.mk ((by rw [hg];exact (below_size (below_go HB.out)) : w.heap.size≤gb192))
       have n8_:=Aside0.mk ((by rw [hg];exact Nat.ne_of_lt (blk_lt (blk_up BK176.out)) : gb176≠gb192))
       have n9_:=Aside0.mk ((by rw [hg];exact Nat.ne_of_gt (blk_lt (blk_up BK176.out)) : gb192≠gb176))
       have n10_:=Aside0.mk ((by rw [hg];exact Nat.ne_of_lt (blk_lt (blk_up BK181.out)) : gb181≠gb192))
       have n11_:=Aside0.mk ((by rw [hg];exact Nat.ne_of_gt (blk_lt (blk_up BK181.out)) : gb192≠gb181))
       have n12_:=Aside0.mk ((by rw [hg];exact Nat.ne_of_lt (blk_lt (blk_up BK184.out)) : gb184≠gb192))
       have n13_:=Aside0.mk ((by rw [hg];exact Nat.ne_of_gt (blk_lt (blk_up BK184.out)) : gb192≠gb184))
       have n14_:=Aside0.mk ((by rw [hg];exact Nat.ne_of_lt (blk_lt (blk_up BK187.out)) : gb187≠gb192))
       have n15_:=Aside0.mk ((by rw [hg];exact Nat.ne_of_gt (blk_lt (blk_up BK187.out)) : gb192≠gb187))
       clear BK176
       clear BK181
       clear BK184
       clear BK187
       clear HB
       have BK176:=n0_
       have BK181:=n1_
       have BK184:=n2_
       have BK187:=n3_
       have HB:=n4_
       have BK192:=n5_
       have GW192:=n6_
       have GE192:=n7_
       have NB176_192:=n8_
       have NB192_176:=n9_
       have NB181_192:=n10_
       have NB192_181:=n11_
       have NB184_192:=n12_
       have NB192_184:=n13_
       have NB187_192:=n14_
       have NB192_187:=n15_
       clear n0_ n1_ n2_ n3_ n4_ n5_ n6_ n7_ n8_ n9_ n10_ n11_ n12_ n13_ n14_ n15_
       clear hb hbox hg
       refine hK.out _ _ ⟨(blk_cell BK181.out 0).trans rfl,(blk_cell BK181.out 1).trans rfl,(blk_cell BK184.out 0).trans rfl,(blk_cell BK184.out 1).trans rfl,(blk_cell BK187.out 0).trans rfl,(blk_cell BK187.out 1).trans rfl⟩ (fun hHeld=>?_)
       clear hK K
       refine norm_ (a':=?_) ?_ ?_
       rotate_left
       ·show Act.put _ (some 10) _=_
        simp only [Act.put,List.setIfInBounds_toArray,List.set_cons_zero,List.set_cons_succ,i64_w,i32_w]
        rfl
       refine one_ (i:=6) (N:=some 33) #[true,true,true,true,true,true,true,true,false] rfl rfl (one_of HT_.out (by kernel_rfl)) (by decide) (fun K hK=>?_)
       refine goes_ Tryd.func14 (by kernel_rfl) rfl #[.int .i64 t178,.agg #[.int .i64 t188,.string t189],.agg #[.int .i64 t185,.string t186]] (by rfl) rfl rfl (by (try simp only [List.map_toArray,List.map_cons,List.map_nil]);first|done|rfl|(simp only [List.length_drop,List.length_take];rfl)) ?_
       with_reducible refine (value_Add.calls k t178 t188 t189 t185 t186 t190 t191 _ A9.out).mono ?_
       rintro e w37 ⟨rfl,hb⟩
       refine ⟨_,rfl,?_⟩
       have n0_:=Aside0.mk (blk_below (blk_up BK176.out) hb)
       have n1_:=Aside0.mk (blk_below (blk_up BK181.out) hb)
       have n2_:=Aside0.mk (blk_below (blk_up BK184.out) hb)
       have n3_:=Aside0.mk (blk_below (blk_up BK187.out) hb)
       have n4_:=Aside0.mk (blk_below (g:=gb192) (o:=.cells #[.int .i64 0,.string (⟨#[]⟩ : ByteArray)] 23 (0,0)) (blk_up BK192.out) hb)
       have n5_:=Aside0.mk (below_step (below_go HB.out) hb)
       clear BK176
       clear BK181
       clear BK184
       clear BK187
       clear BK192
       clear HB
       have BK176:=n0_
       have BK181:=n1_
       have BK184:=n2_
       have BK187:=n3_
       have BK192:=n4_
       have HB:=n5_
       clear n0_ n1_ n2_ n3_ n4_ n5_
       (try clear hb)
       (try clear hb2)
       (try clear hk)
       (try clear hi)
       refine hK.out _ _ ⟨(blk_cell BK181.out 0).trans rfl,(blk_cell BK181.out 1).trans rfl,(blk_cell BK184.out 0).trans rfl,(blk_cell BK184.out 1).trans rfl,(blk_cell BK187.out 0).trans rfl,(blk_cell BK187.out 1).trans rfl⟩ (fun hHeld=>?_)
       clear hK K
       refine norm_ (a':=?_) ?_ ?_
       rotate_left
       ·show Act.put _ (some 33) _=_
        simp only [Act.put,List.setIfInBounds_toArray,List.set_cons_zero,List.set_cons_succ,i64_w,i32_w]
        rfl
       exact norm_ (by simp only [putAll,Act.put,List.setIfInBounds_toArray,List.set_cons_zero,List.set_cons_succ]) (hCont (gb192) _ ⟨hHeld,(blk_up BK176.out),(blk_up BK181.out),(blk_up BK184.out),(blk_up BK187.out),(blk_up BK192.out),GW192.out,GE192.out,NB176_192.out,NB192_176.out,NB181_192.out,NB192_181.out,NB184_192.out,NB192_184.out,NB187_192.out,NB192_187.out,(below_go HB.out)⟩)
     ·skip
      refine box_step ?hg (N:=10) ?hd (cs:=#[.int .i64 0,.string (⟨#[]⟩ : ByteArray)]) (t:=23) ?hr ?_;(case hd=>rfl);(case hg=>rfl);(case hr=>first|(go_simp;done)|(go_simp;rfl))
      intro gb192 hg w35 hbox hb
      have n0_:=Aside0.mk (blk_below (blk_up BK176.out) hb)
      have n1_:=Aside0.mk (blk_below (blk_up BK181.out) hb)
      have n2_:=Aside0.mk (blk_below (blk_up BK184.out) hb)
      have n3_:=Aside0.mk (blk_below (blk_up BK187.out) hb)
      have n4_:=Aside0.mk (below_step (below_go HB.out) hb)
      have n5_:=Aside0.mk (hbox)
      have n6_:=Aside0.mk ((by rw [hg];exact (below_size (below_go HB.out)) : w.heap.size≤gb192))
      have n7_:=Aside0.mk ((by rw [hg];exact (below_size (below_go HB.out)) : w.heap.size≤gb192))
      have n8_:=Aside0.mk ((by rw [hg];exact Nat.ne_of_lt (blk_lt (blk_up BK176.out)) : gb176≠gb192))
      have n9_:=Aside0.mk ((by rw [hg];exact Nat.ne_of_gt (blk_lt (blk_up BK176.out)) : gb192≠gb176))
      have n10_:=Aside0.mk ((by rw [hg];exact Nat.ne_of_lt (blk_lt (blk_up BK181.out)) : gb181≠gb192))
      have n11_:=Aside0.mk ((by rw [hg];exact Nat.ne_of_gt (blk_lt (blk_up BK181.out)) : gb192≠gb181))
      have n12_:=Aside0.mk ((by rw [hg];exact Nat.ne_of_lt (blk_lt (blk_up BK184.out)) : gb184≠gb192))
      have n13_:=Aside0.mk ((by rw [hg];exact Nat.ne_of_gt (blk_lt (blk_up BK184.out)) : gb192≠gb184))
      have n14_:=Aside0.mk ((by rw [hg];exact Nat.ne_of_lt (blk_lt (blk_up BK187.out)) : gb187≠gb192))
      have n15_:=Aside0.mk ((by rw [hg];exact Nat.ne_of_gt (blk_lt (blk_up BK187.out)) : gb192≠gb187))
      clear BK176
      clear BK181
      clear BK184
      clear BK187
      clear HB
      have BK176:=n0_
      have BK181:=n1_
      have BK184:=n2_
      have BK187:=n3_
      have HB:=n4_
      have BK192:=n5_
      have GW192:=n6_
      have GE192:=n7_
      have NB176_192:=n8_
      have NB192_176:=n9_
      have NB181_192:=n10_
      have NB192_181:=n11_
      have NB184_192:=n12_
      have NB192_184:=n13_
      have NB187_192:=n14_
      have NB192_187:=n15_
      clear n0_ n1_ n2_ n3_ n4_ n5_ n6_ n7_ n8_ n9_ n10_ n11_ n12_ n13_ n14_ n15_
      clear hb hbox hg
      refine hK.out _ _ ⟨(blk_cell BK181.out 0).trans rfl,(blk_cell BK181.out 1).trans rfl,(blk_cell BK184.out 0).trans rfl,(blk_cell BK184.out 1).trans rfl,(blk_cell BK187.out 0).trans rfl,(blk_cell BK187.out 1).trans rfl⟩ (fun hHeld=>?_)
      clear hK K
      refine norm_ (a':=?_) ?_ ?_
      rotate_left
      ·show Act.put _ (some 10) _=_
       simp only [Act.put,List.setIfInBounds_toArray,List.set_cons_zero,List.set_cons_succ,i64_w,i32_w]
       rfl
      refine one_ (i:=4) (N:=some 31) #[true,true,true,true,true,true,false,true,false] rfl rfl (one_of HT_.out (by kernel_rfl)) (by decide) (fun K hK=>?_)
      refine goes_ Tryd.func14 (by kernel_rfl) rfl #[.int .i64 t178,.agg #[.int .i64 t179,.string t180],.agg #[.int .i64 t182,.string t183]] (by rfl) rfl rfl (by (try simp only [List.map_toArray,List.map_cons,List.map_nil]);first|done|rfl|(simp only [List.length_drop,List.length_take];rfl)) ?_
      with_reducible refine (value_Add.calls k t178 t179 t180 t182 t183 t188 t189 _ A8.out).mono ?_
      rintro e w36 ⟨rfl,hb⟩
      refine ⟨_,rfl,?_⟩
      have n0_:=Aside0.mk (blk_below (blk_up BK176.out) hb)
      have n1_:=Aside0.mk (blk_below (blk_up BK181.out) hb)
      have n2_:=Aside0.mk (blk_below (blk_up BK184.out) hb)
      have n3_:=Aside0.mk (blk_below (blk_up BK187.out) hb)
      have n4_:=Aside0.mk (blk_below (g:=gb192) (o:=.cells #[.int .i64 0,.string (⟨#[]⟩ : ByteArray)] 23 (0,0)) (blk_up BK192.out) hb)
      have n5_:=Aside0.mk (below_step (below_go HB.out) hb)
      clear BK176
      clear BK181
      clear BK184
      clear BK187
      clear BK192
      clear HB
      have BK176:=n0_
      have BK181:=n1_
      have BK184:=n2_
      have BK187:=n3_
      have BK192:=n4_
      have HB:=n5_
      clear n0_ n1_ n2_ n3_ n4_ n5_
      (try clear hb)
      (try clear hb2)
      (try clear hk)
      (try clear hi)
      refine hK.out _ _ ⟨(blk_cell BK181.out 0).trans rfl,(blk_cell BK181.out 1).trans rfl,(blk_cell BK184.out 0).trans rfl,(blk_cell BK184.out 1).trans rfl,(blk_cell BK187.out 0).trans rfl,(blk_cell BK187.out 1).trans rfl⟩ (fun hHeld=>?_)
      clear hK K
      refine norm_ (a':=?_) ?_ ?_
      rotate_left
      ·show Act.put _ (some 31) _=_
       simp only [Act.put,List.setIfInBounds_toArray,List.set_cons_zero,List.set_cons_succ,i64_w,i32_w]
       rfl
      refine one_ (i:=6) (N:=some 33) #[true,true,true,true,true,true,true,true,false] rfl rfl (one_of HT_.out (by kernel_rfl)) (by decide) (fun K hK=>?_)
      refine goes_ Tryd.func14 (by kernel_rfl) rfl #[.int .i64 t178,.agg #[.int .i64 t188,.string t189],.agg #[.int .i64 t185,.string t186]] (by rfl) rfl rfl (by (try simp only [List.map_toArray,List.map_cons,List.map_nil]);first|done|rfl|(simp only [List.length_drop,List.length_take];rfl)) ?_
      with_reducible refine (value_Add.calls k t178 t188 t189 t185 t186 t190 t191 _ A9.out).mono ?_
      rintro e w37 ⟨rfl,hb⟩
      refine ⟨_,rfl,?_⟩
      have n0_:=Aside0.mk (blk_below (blk_up BK176.out) hb)
      have n1_:=Aside0.mk (blk_below (blk_up BK181.out) hb)
      have n2_:=Aside0.mk (blk_below (blk_up BK184.out) hb)
      have n3_:=Aside0.mk (blk_below (blk_up BK187.out) hb)
      have n4_:=Aside0.mk (blk_below (g:=gb192) (o:=.cells #[.int .i64 0,.string (⟨#[]⟩ : ByteArray)] 23 (0,0)) (blk_up BK192.out) hb)
      have n5_:=Aside0.mk (below_step (below_go HB.out) hb)
      clear BK176
      clear BK181
      clear BK184
      clear BK187
      clear BK192
      clear HB
      have BK176:=n0_
      have BK181:=n1_
      have BK184:=n2_
      have BK187:=n3_
      have BK192:=n4_
      have HB:=n5_
      clear n0_ n1_ n2_ n3_ n4_ n5_
      (try clear hb)
      (try clear hb2)
      (try clear hk)
      (try clear hi)
      refine hK.out _ _ ⟨(blk_cell BK181.out 0).trans rfl,(blk_cell BK181.out 1).trans rfl,(blk_cell BK184.out 0).trans rfl,(blk_cell BK184.out 1).trans rfl,(blk_cell BK187.out 0).trans rfl,(blk_cell BK187.out 1).trans rfl⟩ (fun hHeld=>?_)
      clear hK K
      refine norm_ (a':=?_) ?_ ?_
      rotate_left
      ·show Act.put _ (some 33) _=_
       simp only [Act.put,List.setIfInBounds_toArray,List.set_cons_zero,List.set_cons_succ,i64_w,i32_w]
       rfl
      exact norm_ (by simp only [putAll,Act.put,List.setIfInBounds_toArray,List.set_cons_zero,List.set_cons_succ]) (hCont (gb192) _ ⟨hHeld,(blk_up BK176.out),(blk_up BK181.out),(blk_up BK184.out),(blk_up BK187.out),(blk_up BK192.out),GW192.out,GE192.out,NB176_192.out,NB192_176.out,NB181_192.out,NB192_181.out,NB184_192.out,NB192_184.out,NB187_192.out,NB192_187.out,(below_go HB.out)⟩)
    rintro gb192 w38 ⟨hS_,h0_,h1_,h2_,h3_,h4_,h5_,h6_,h7_,h8_,h9_,h10_,h11_,h12_,h13_,h14_,h15_⟩
    have n0_ : Aside0 (w38.heap[gb176]?=some (.cells #[.int .i64 a1_0,.string a1_1,.int .i64 a1_2,.string a1_3,.int .i64 a1_4,.string a1_5] 24 (0,0))):=⟨h0_⟩
    have n1_ : Aside0 (w38.heap[gb181]?=some (.cells #[.int .i64 t179,.string t180] 23 (0,0))):=⟨h1_⟩
    have n2_ : Aside0 (w38.heap[gb184]?=some (.cells #[.int .i64 t182,.string t183] 23 (0,0))):=⟨h2_⟩
    have n3_ : Aside0 (w38.heap[gb187]?=some (.cells #[.int .i64 t185,.string t186] 23 (0,0))):=⟨h3_⟩
    have n4_ : Aside0 (w38.heap[gb192]?=some (.cells #[.int .i64 0,.string (⟨#[]⟩ : ByteArray)] 23 (0,0))):=⟨h4_⟩
    have n5_ : Aside0 (w.heap.size≤gb192):=⟨h5_⟩
    have n6_ : Aside0 (w.heap.size≤gb192):=⟨h6_⟩
    have n7_ : Aside0 (gb176≠gb192):=⟨h7_⟩
    have n8_ : Aside0 (gb192≠gb176):=⟨h8_⟩
    have n9_ : Aside0 (gb181≠gb192):=⟨h9_⟩
    have n10_ : Aside0 (gb192≠gb181):=⟨h10_⟩
    have n11_ : Aside0 (gb184≠gb192):=⟨h11_⟩
    have n12_ : Aside0 (gb192≠gb184):=⟨h12_⟩
    have n13_ : Aside0 (gb187≠gb192):=⟨h13_⟩
    have n14_ : Aside0 (gb192≠gb187):=⟨h14_⟩
    have n15_ : Aside0 (Below w.heap.size w w38):=⟨h15_⟩
    clear BK176
    clear BK181
    clear BK184
    clear BK187
    clear HB
    clear h0_ h1_ h2_ h3_ h4_ h5_ h6_ h7_ h8_ h9_ h10_ h11_ h12_ h13_ h14_ h15_
    have BK176:=n0_
    have BK181:=n1_
    have BK184:=n2_
    have BK187:=n3_
    have BK192:=n4_
    have GW192:=n5_
    have GE192:=n6_
    have NB176_192:=n7_
    have NB192_176:=n8_
    have NB181_192:=n9_
    have NB192_181:=n10_
    have NB184_192:=n11_
    have NB192_184:=n12_
    have NB187_192:=n13_
    have NB192_187:=n14_
    have HB:=n15_
    clear n0_ n1_ n2_ n3_ n4_ n5_ n6_ n7_ n8_ n9_ n10_ n11_ n12_ n13_ n14_ n15_
    have hHeld : w38.cell? ⟨gb181,0,none⟩=some (.int .i64 t179)∧w38.cell? ⟨gb181,1,none⟩=some (.string t180)∧w38.cell? ⟨gb184,0,none⟩=some (.int .i64 t182)∧w38.cell? ⟨gb184,1,none⟩=some (.string t183)∧w38.cell? ⟨gb187,0,none⟩=some (.int .i64 t185)∧w38.cell? ⟨gb187,1,none⟩=some (.string t186):=hS_
    refine norm_ (a':=?_) ?_ ?_
    rotate_left
    ·simp only [putAll,Act.put,List.setIfInBounds_toArray,List.set_cons_zero,List.set_cons_succ]
     rfl
    refine one_ (i:=8) (N:=none) #[true,true,true,true,true,true,true,true,true] rfl rfl (one_of HT_.out (by kernel_rfl)) (by decide) (fun K hK=>?_)
    have hs39 : w38.cell? ⟨gb192,0,none⟩=some (.int .i64 0):=(blk_cell BK192.out 0).trans rfl
    have hfs39:=blk_frozen BK192.out 0
    have hns39_0:=NB176_192.out
    have hns39_1:=NB181_192.out
    have hns39_2:=NB184_192.out
    have hns39_3:=NB187_192.out
    have hms39_0:=NB192_176.out
    have hms39_1:=NB192_181.out
    have hms39_2:=NB192_184.out
    have hms39_3:=NB192_187.out
    have hs40 : w38.cell? ⟨gb192,1,none⟩=some (.string (⟨#[]⟩ : ByteArray)):=(blk_cell BK192.out 1).trans rfl
    have hfs40:=blk_frozen BK192.out 1
    have hns40_0:=NB176_192.out
    have hns40_1:=NB181_192.out
    have hns40_2:=NB184_192.out
    have hns40_3:=NB187_192.out
    have hms40_0:=NB192_176.out
    have hms40_1:=NB192_181.out
    have hms40_2:=NB192_184.out
    have hms40_3:=NB192_187.out
    refine skip_ (w1:=?_) (by rfl) rfl ?_ ?_
    rotate_left
    ·go_simp
     rfl
    refine hK.out _ _ ⟨((cell_far (p:=⟨gb192,_,none⟩) NB181_192.out _).trans (((cell_far (p:=⟨gb192,_,none⟩) NB181_192.out _).trans (hHeld.1)))),((cell_far (p:=⟨gb192,_,none⟩) NB181_192.out _).trans (((cell_far (p:=⟨gb192,_,none⟩) NB181_192.out _).trans (hHeld.2.1)))),((cell_far (p:=⟨gb192,_,none⟩) NB184_192.out _).trans (((cell_far (p:=⟨gb192,_,none⟩) NB184_192.out _).trans (hHeld.2.2.1)))),((cell_far (p:=⟨gb192,_,none⟩) NB184_192.out _).trans (((cell_far (p:=⟨gb192,_,none⟩) NB184_192.out _).trans (hHeld.2.2.2.1)))),((cell_far (p:=⟨gb192,_,none⟩) NB187_192.out _).trans (((cell_far (p:=⟨gb192,_,none⟩) NB187_192.out _).trans (hHeld.2.2.2.2.1)))),((cell_far (p:=⟨gb192,_,none⟩) NB187_192.out _).trans (((cell_far (p:=⟨gb192,_,none⟩) NB187_192.out _).trans (hHeld.2.2.2.2.2))))⟩ (fun hHeld=>?_)
    clear hK K
    refine done_ (done_of HT_.out (by kernel_rfl)) ?_
    (try clear hHeld)
    try go_wp2
    have n0_ : Aside0 (((w38.setCell ⟨gb192,0,none⟩ (.int .i64 t190)).setCell ⟨gb192,1,none⟩ (.string t191)).heap[gb176]?=some (.cells #[.int .i64 a1_0,.string a1_1,.int .i64 a1_2,.string a1_3,.int .i64 a1_4,.string a1_5] 24 (0,0))):=⟨by (with_reducible repeat (first|refine blk_drewN ?_ _|refine blk_drew ?_|refine blk_alloc ?_ _));refine blk_far ?_ NB176_192.out _;(with_reducible repeat (first|refine blk_drewN ?_ _|refine blk_drew ?_|refine blk_alloc ?_ _));refine blk_far ?_ NB176_192.out _;(with_reducible repeat (first|refine blk_drewN ?_ _|refine blk_drew ?_|refine blk_alloc ?_ _));exact BK176.out⟩
    have n1_ : Aside0 (((w38.setCell ⟨gb192,0,none⟩ (.int .i64 t190)).setCell ⟨gb192,1,none⟩ (.string t191)).heap[gb181]?=some (.cells #[.int .i64 t179,.string t180] 23 (0,0))):=⟨by (with_reducible repeat (first|refine blk_drewN ?_ _|refine blk_drew ?_|refine blk_alloc ?_ _));refine blk_far ?_ NB181_192.out _;(with_reducible repeat (first|refine blk_drewN ?_ _|refine blk_drew ?_|refine blk_alloc ?_ _));refine blk_far ?_ NB181_192.out _;(with_reducible repeat (first|refine blk_drewN ?_ _|refine blk_drew ?_|refine blk_alloc ?_ _));exact BK181.out⟩
    have n2_ : Aside0 (((w38.setCell ⟨gb192,0,none⟩ (.int .i64 t190)).setCell ⟨gb192,1,none⟩ (.string t191)).heap[gb184]?=some (.cells #[.int .i64 t182,.string t183] 23 (0,0))):=⟨by (with_reducible repeat (first|refine blk_drewN ?_ _|refine blk_drew ?_|refine blk_alloc ?_ _));refine blk_far ?_ NB184_192.out _;(with_reducible repeat (first|refine blk_drewN ?_ _|refine blk_drew ?_|refine blk_alloc ?_ _));refine blk_far ?_ NB184_192.out _;(with_reducible repeat (first|refine blk_drewN ?_ _|refine blk_drew ?_|refine blk_alloc ?_ _));exact BK184.out⟩
    have n3_ : Aside0 (((w38.setCell ⟨gb192,0,none⟩ (.int .i64 t190)).setCell ⟨gb192,1,none⟩ (.string t191)).heap[gb187]?=some (.cells #[.int .i64 t185,.string t186] 23 (0,0))):=⟨by (with_reducible repeat (first|refine blk_drewN ?_ _|refine blk_drew ?_|refine blk_alloc ?_ _));refine blk_far ?_ NB187_192.out _;(with_reducible repeat (first|refine blk_drewN ?_ _|refine blk_drew ?_|refine blk_alloc ?_ _));refine blk_far ?_ NB187_192.out _;(with_reducible repeat (first|refine blk_drewN ?_ _|refine blk_drew ?_|refine blk_alloc ?_ _));exact BK187.out⟩
    have n4_ : Aside0 (((w38.setCell ⟨gb192,0,none⟩ (.int .i64 t190)).setCell ⟨gb192,1,none⟩ (.string t191)).heap[gb192]?=some (.cells #[.int .i64 t190,.string t191] 23 (0,0))):=⟨by (with_reducible repeat (first|refine blk_drewN ?_ _|refine blk_drew ?_|refine blk_alloc ?_ _));refine blk_put (cs:=#[.int .i64 t190,.string (⟨#[]⟩ : ByteArray)]) ?_ 1 _ rfl;(with_reducible repeat (first|refine blk_drewN ?_ _|refine blk_drew ?_|refine blk_alloc ?_ _));refine blk_put (cs:=#[.int .i64 0,.string (⟨#[]⟩ : ByteArray)]) ?_ 0 _ rfl;(with_reducible repeat (first|refine blk_drewN ?_ _|refine blk_drew ?_|refine blk_alloc ?_ _));exact BK192.out⟩
    have n5_ : Aside0 (Below w.heap.size w ((w38.setCell ⟨gb192,0,none⟩ (.int .i64 t190)).setCell ⟨gb192,1,none⟩ (.string t191))):=⟨by repeat (first|(with_reducible first|exact HB.out|apply below_alloc|apply pw_below_drewN|apply below_drew1|refine below_set ?_ GE176.out|refine below_set ?_ GE181.out|refine below_set ?_ GE184.out|refine below_set ?_ GE187.out|refine below_set ?_ GE192.out)|exact HB.out)⟩
    (try clear BK176)
    (try clear BK181)
    (try clear BK184)
    (try clear BK187)
    (try clear BK192)
    (try clear HB)
    generalize ((w38.setCell ⟨gb192,0,none⟩ (.int .i64 t190)).setCell ⟨gb192,1,none⟩ (.string t191))=w41 at n0_ n1_ n2_ n3_ n4_ n5_ ⊢
    have BK176:=n0_
    have BK181:=n1_
    have BK184:=n2_
    have BK187:=n3_
    have BK192:=n4_
    have HB:=n5_
    clear n0_ n1_ n2_ n3_ n4_ n5_
    have n0_:=Aside0.mk (blk_drew BK176.out)
    have n1_:=Aside0.mk (blk_drew BK181.out)
    have n2_:=Aside0.mk (blk_drew BK184.out)
    have n3_:=Aside0.mk (blk_drew BK187.out)
    have n4_:=Aside0.mk (blk_drew BK192.out)
    have n5_:=Aside0.mk (below_drew1 HB.out)
    clear BK176
    clear BK181
    clear BK184
    clear BK187
    clear BK192
    clear HB
    have BK176:=n0_
    have BK181:=n1_
    have BK184:=n2_
    have BK187:=n3_
    have BK192:=n4_
    have HB:=n5_
    clear n0_ n1_ n2_ n3_ n4_ n5_
    refine start_ (n:=9) (S:=fun w'=>w'.cell? ⟨gb181,0,none⟩=some (.int .i64 t179)∧w'.cell? ⟨gb181,1,none⟩=some (.string t180)∧w'.cell? ⟨gb184,0,none⟩=some (.int .i64 t182)∧w'.cell? ⟨gb184,1,none⟩=some (.string t183)∧w'.cell? ⟨gb187,0,none⟩=some (.int .i64 t185)∧w'.cell? ⟨gb187,1,none⟩=some (.string t186)) (ds:=[]) #[false,false,false,false,false,false,false,false,false] (by kernel_rfl) rfl rfl ⟨(blk_cell BK181.out 0).trans rfl,(blk_cell BK181.out 1).trans rfl,(blk_cell BK184.out 0).trans rfl,(blk_cell BK184.out 1).trans rfl,(blk_cell BK187.out 0).trans rfl,(blk_cell BK187.out 1).trans rfl⟩ (fun hHeld=>?_);refine with_tabW thresherlaw03_ValueSums.tab7 thresherlaw03_ValueSums.bits7 (fun HT_ HW_=>?_)
    generalize w41.drew=w42 at BK176 BK181 BK184 BK187 BK192 HB hHeld ⊢
    refine pure_ (i:=0) (N:=some 34) (v:=?_) (a':=?_) #[true,false,false,false,false,false,false,false,false] rfl rfl (any_of HT_.out (by kernel_rfl)) (fun _ _ _ h=>h) (Or.inl ⟨by rfl,?_⟩) ?_ ?_
    rotate_left;(intro w';go_simp;with_reducible rfl);rotate_left;(simp only [Act.put,List.setIfInBounds_toArray,List.set_cons_zero,List.set_cons_succ,i64_w,i32_w];rfl)
    refine pure_ (i:=2) (N:=some 36) (v:=?_) (a':=?_) #[true,false,true,false,false,false,false,false,false] rfl rfl (any_of HT_.out (by kernel_rfl)) (fun _ _ _ h=>h) (Or.inl ⟨by rfl,?_⟩) ?_ ?_
    rotate_left;(intro w';go_simp;with_reducible rfl);rotate_left;(simp only [Act.put,List.setIfInBounds_toArray,List.set_cons_zero,List.set_cons_succ,i64_w,i32_w];rfl)
    refine take_ (i:=1) (N:=some 35) (v:=?_) (a':=?_) #[true,true,true,false,false,false,false,false,false] rfl rfl (take_ofW HT_.out HW_.out (by kernel_rfl)) (fun _ _ _ h=>h) (Or.inl ⟨by rfl,?_⟩) hHeld ?_ ?_
    rotate_left;(rintro w' ⟨s0,s1,s2,s3,s4,s5⟩;go_simp;with_reducible rfl);rotate_left;(simp only [Act.put,List.setIfInBounds_toArray,List.set_cons_zero,List.set_cons_succ,i64_w,i32_w];rfl)
    refine take_ (i:=3) (N:=some 37) (v:=?_) (a':=?_) #[true,true,true,true,false,false,false,false,false] rfl rfl (take_ofW HT_.out HW_.out (by kernel_rfl)) (fun _ _ _ h=>h) (Or.inl ⟨by rfl,?_⟩) hHeld ?_ ?_
    rotate_left;(rintro w' ⟨s0,s1,s2,s3,s4,s5⟩;go_simp;with_reducible rfl);rotate_left;(simp only [Act.put,List.setIfInBounds_toArray,List.set_cons_zero,List.set_cons_succ,i64_w,i32_w];rfl)
    refine take_ (i:=4) (N:=some 38) (v:=?_) (a':=?_) #[true,true,true,true,true,false,false,false,false] rfl rfl (take_ofW HT_.out HW_.out (by kernel_rfl)) (fun _ _ _ h=>h) (Or.inl ⟨by rfl,?_⟩) hHeld ?_ ?_
    rotate_left;(rintro w' ⟨s0,s1,s2,s3,s4,s5⟩;go_simp;with_reducible rfl);rotate_left;(simp only [Act.put,List.setIfInBounds_toArray,List.set_cons_zero,List.set_cons_succ,i64_w,i32_w];rfl)
    refine join_ (σ:=Nat) 1 #[true,true,true,true,true,true,true,true,false] (fun s_=>[(39,.agg #[.int .i64 t193,.string t194]),(40,.agg #[.int .i64 t195,.string t196]),(11,.pointer (some ⟨s_,0,none⟩))]) (fun s_ w'=>(w'.cell? ⟨gb181,0,none⟩=some (.int .i64 t179)∧w'.cell? ⟨gb181,1,none⟩=some (.string t180)∧w'.cell? ⟨gb184,0,none⟩=some (.int .i64 t182)∧w'.cell? ⟨gb184,1,none⟩=some (.string t183)∧w'.cell? ⟨gb187,0,none⟩=some (.int .i64 t185)∧w'.cell? ⟨gb187,1,none⟩=some (.string t186))∧(w'.heap[gb176]?=some (.cells #[.int .i64 a1_0,.string a1_1,.int .i64 a1_2,.string a1_3,.int .i64 a1_4,.string a1_5] 24 (0,0)))∧(w'.heap[gb181]?=some (.cells #[.int .i64 t179,.string t180] 23 (0,0)))∧(w'.heap[gb184]?=some (.cells #[.int .i64 t182,.string t183] 23 (0,0)))∧(w'.heap[gb187]?=some (.cells #[.int .i64 t185,.string t186] 23 (0,0)))∧(w'.heap[gb192]?=some (.cells #[.int .i64 t190,.string t191] 23 (0,0)))∧(w'.heap[s_]?=some (.cells #[.int .i64 0,.string (⟨#[]⟩ : ByteArray)] 23 (0,0)))∧(w.heap.size≤s_)∧(w.heap.size≤s_)∧(gb176≠s_)∧(s_≠gb176)∧(gb181≠s_)∧(s_≠gb181)∧(gb184≠s_)∧(s_≠gb184)∧(gb187≠s_)∧(s_≠gb187)∧(gb192≠s_)∧(s_≠gb192)∧(Below w.heap.size w w')) ?_ ?_
    rotate_left
    ·intro hCont
     refine two_ (i:=5) (j:=7) (Ni:=some 39) (Nj:=some 11) #[true,true,true,true,true,true,false,false,false] #[true,true,true,true,true,false,false,true,false] rfl rfl rfl rfl (two_of HT_.out (by kernel_rfl)) (by decide) (by decide) (fun K hK=>?_) (fun K hK=>?_)
     ·skip
      refine goes_ Tryd.func14 (by kernel_rfl) rfl #[.int .i64 t178,.agg #[.int .i64 t182,.string t183],.agg #[.int .i64 t185,.string t186]] (by rfl) rfl rfl (by (try simp only [List.map_toArray,List.map_cons,List.map_nil]);first|done|rfl|(simp only [List.length_drop,List.length_take];rfl)) ?_
      with_reducible refine (value_Add.calls k t178 t182 t183 t185 t186 t193 t194 _ A10.out).mono ?_
      rintro e w43 ⟨rfl,hb⟩
      refine ⟨_,rfl,?_⟩
      have n0_:=Aside0.mk (blk_below (blk_up BK176.out) hb)
      have n1_:=Aside0.mk (blk_below (blk_up BK181.out) hb)
      have n2_:=Aside0.mk (blk_below (blk_up BK184.out) hb)
      have n3_:=Aside0.mk (blk_below (blk_up BK187.out) hb)
      have n4_:=Aside0.mk (blk_below (blk_up BK192.out) hb)
      have n5_:=Aside0.mk (below_step (below_go HB.out) hb)
      clear BK176
      clear BK181
      clear BK184
      clear BK187
      clear BK192
      clear HB
      have BK176:=n0_
      have BK181:=n1_
      have BK184:=n2_
      have BK187:=n3_
      have BK192:=n4_
      have HB:=n5_
      clear n0_ n1_ n2_ n3_ n4_ n5_
      (try clear hb)
      (try clear hb2)
      (try clear hk)
      (try clear hi)
      refine hK.out _ _ ⟨(blk_cell BK181.out 0).trans rfl,(blk_cell BK181.out 1).trans rfl,(blk_cell BK184.out 0).trans rfl,(blk_cell BK184.out 1).trans rfl,(blk_cell BK187.out 0).trans rfl,(blk_cell BK187.out 1).trans rfl⟩ (fun hHeld=>?_)
      clear hK K
      refine norm_ (a':=?_) ?_ ?_
      rotate_left
      ·show Act.put _ (some 39) _=_
       simp only [Act.put,List.setIfInBounds_toArray,List.set_cons_zero,List.set_cons_succ,i64_w,i32_w]
       rfl
      refine two_ (i:=6) (j:=7) (Ni:=some 40) (Nj:=some 11) #[true,true,true,true,true,true,true,false,false] #[true,true,true,true,true,true,false,true,false] rfl rfl rfl rfl (two_of HT_.out (by kernel_rfl)) (by decide) (by decide) (fun K hK=>?_) (fun K hK=>?_)
      ·skip
       refine goes_ Tryd.func14 (by kernel_rfl) rfl #[.int .i64 t178,.agg #[.int .i64 t179,.string t180],.agg #[.int .i64 t193,.string t194]] (by rfl) rfl rfl (by (try simp only [List.map_toArray,List.map_cons,List.map_nil]);first|done|rfl|(simp only [List.length_drop,List.length_take];rfl)) ?_
       with_reducible refine (value_Add.calls k t178 t179 t180 t193 t194 t195 t196 _ A11.out).mono ?_
       rintro e w44 ⟨rfl,hb⟩
       refine ⟨_,rfl,?_⟩
       have n0_:=Aside0.mk (blk_below (blk_up BK176.out) hb)
       have n1_:=Aside0.mk (blk_below (blk_up BK181.out) hb)
       have n2_:=Aside0.mk (blk_below (blk_up BK184.out) hb)
       have n3_:=Aside0.mk (blk_below (blk_up BK187.out) hb)
       have n4_:=Aside0.mk (blk_below (blk_up BK192.out) hb)
       have n5_:=Aside0.mk (below_step (below_go HB.out) hb)
       clear BK176
       clear BK181
       clear BK184
       clear BK187
       clear BK192
       clear HB
       have BK176:=n0_
       have BK181:=n1_
       have BK184:=n2_
       have BK187:=n3_
       have BK192:=n4_
       have HB:=n5_
       clear n0_ n1_ n2_ n3_ n4_ n5_
       (try clear hb)
       (try clear hb2)
       (try clear hk)
       (try clear hi)
       refine hK.out _ _ ⟨(blk_cell BK181.out 0).trans rfl,(blk_cell BK181.out 1).trans rfl,(blk_cell BK184.out 0).trans rfl,(blk_cell BK184.out 1).trans rfl,(blk_cell BK187.out 0).trans rfl,(blk_cell BK187.out 1).trans rfl⟩ (fun hHeld=>?_)
       clear hK K
       refine norm_ (a':=?_) ?_ ?_
       rotate_left
       ·show Act.put _ (some 40) _=_
        simp only [Act.put,List.setIfInBounds_toArray,List.set_cons_zero,List.set_cons_succ,i64_w,i32_w]
        rfl
       refine one_ (i:=7) (N:=some 11) #[true,true,true,true,true,true,true,true,false] rfl rfl (one_of HT_.out (by kernel_rfl)) (by decide) (fun K hK=>?_)
       refine box_step ?hg (N:=11) ?hd (cs:=#[.int .i64 0,.string (⟨#[]⟩ : ByteArray)]) (t:=23) ?hr ?_;(case hd=>rfl);(case hg=>rfl);(case hr=>first|(go_simp;done)|(go_simp;rfl))
       intro gb197 hg w45 hbox hb
       have n0_:=Aside0.mk (blk_below (blk_up BK176.out) hb)
       have n1_:=Aside0.mk (blk_below (blk_up BK181.out) hb)
       have n2_:=Aside0.mk (blk_below (blk_up BK184.out) hb)
       have n3_:=Aside0.mk (blk_below (blk_up BK187.out) hb)
       have n4_:=Aside0.mk (blk_below (blk_up BK192.out) hb)
       have n5_:=Aside0.mk (below_step (below_go HB.out) hb)
       have n6_:=Aside0.mk (hbox)
       have n7_:=Aside0.mk ((by rw [hg];exact (below_size (below_go HB.out)) : w.heap.size≤gb197))
       have n8_:=Aside0.mk ((by rw [hg];exact (below_size (below_go HB.out)) : w.heap.size≤gb197))
       have n9_:=Aside0.mk ((by rw [hg];exact Nat.ne_of_lt (blk_lt (blk_up BK176.out)) : gb176≠gb197))
       have n10_:=Aside0.mk ((by rw [hg];exact Nat.ne_of_gt (blk_lt (blk_up BK176.out)) : gb197≠gb176))
       have n11_:=Aside0.mk ((by rw [hg];exact Nat.ne_of_lt (blk_lt (blk_up BK181.out)) : gb181≠gb197))
       have n12_:=Aside0.mk ((by rw [hg];exact Nat.ne_of_gt (blk_lt (blk_up BK181.out)) : gb197≠gb181))
       have n13_:=Aside0.mk ((by rw [hg];exact Nat.ne_of_lt (blk_lt (blk_up BK184.out)) : gb184≠gb197))
       have n14_:=Aside0.mk ((by rw [hg];exact Nat.ne_of_gt (blk_lt (blk_up BK184.out)) : gb197≠gb184))
       have n15_:=Aside0.mk ((by rw [hg];exact Nat.ne_of_lt (blk_lt (blk_up BK187.out)) : gb187≠gb197))
       have n16_:=Aside0.mk ((by rw [hg];exact Nat.ne_of_gt (blk_lt (blk_up BK187.out)) : gb197≠gb187))
       have n17_:=Aside0.mk ((by rw [hg];exact Nat.ne_of_lt (blk_lt (blk_up BK192.out)) : gb192≠gb197))
       have n18_:=Aside0.mk ((by rw [hg];exact Nat.ne_of_gt (blk_lt (blk_up BK192.out)) : gb197≠gb192))
       clear BK176
       clear BK181
       clear BK184
       clear BK187
       clear BK192
       clear HB
       have BK176:=n0_
       have BK181:=n1_
       have BK184:=n2_
       have BK187:=n3_
       have BK192:=n4_
       have HB:=n5_
       have BK197:=n6_
       have GW197:=n7_
       have GE197:=n8_
       have NB176_197:=n9_
       have NB197_176:=n10_
       have NB181_197:=n11_
       have NB197_181:=n12_
       have NB184_197:=n13_
       have NB197_184:=n14_
       have NB187_197:=n15_
       have NB197_187:=n16_
       have NB192_197:=n17_
       have NB197_192:=n18_
       clear n0_ n1_ n2_ n3_ n4_ n5_ n6_ n7_ n8_ n9_ n10_ n11_ n12_ n13_ n14_ n15_ n16_ n17_ n18_
       clear hb hbox hg
       refine hK.out _ _ ⟨(blk_cell BK181.out 0).trans rfl,(blk_cell BK181.out 1).trans rfl,(blk_cell BK184.out 0).trans rfl,(blk_cell BK184.out 1).trans rfl,(blk_cell BK187.out 0).trans rfl,(blk_cell BK187.out 1).trans rfl⟩ (fun hHeld=>?_)
       clear hK K
       refine norm_ (a':=?_) ?_ ?_
       rotate_left
       ·show Act.put _ (some 11) _=_
        simp only [Act.put,List.setIfInBounds_toArray,List.set_cons_zero,List.set_cons_succ,i64_w,i32_w]
        rfl
       exact norm_ (by simp only [putAll,Act.put,List.setIfInBounds_toArray,List.set_cons_zero,List.set_cons_succ]) (hCont (gb197) _ ⟨hHeld,(blk_up BK176.out),(blk_up BK181.out),(blk_up BK184.out),(blk_up BK187.out),(blk_up BK192.out),(blk_up BK197.out),GW197.out,GE197.out,NB176_197.out,NB197_176.out,NB181_197.out,NB197_181.out,NB184_197.out,NB197_184.out,NB187_197.out,NB197_187.out,NB192_197.out,NB197_192.out,(below_go HB.out)⟩)
      ·skip
       refine box_step ?hg (N:=11) ?hd (cs:=#[.int .i64 0,.string (⟨#[]⟩ : ByteArray)]) (t:=23) ?hr ?_;(case hd=>rfl);(case hg=>rfl);(case hr=>first|(go_simp;done)|(go_simp;rfl))
       intro gb197 hg w44 hbox hb
       have n0_:=Aside0.mk (blk_below (blk_up BK176.out) hb)
       have n1_:=Aside0.mk (blk_below (blk_up BK181.out) hb)
       have n2_:=Aside0.mk (blk_below (blk_up BK184.out) hb)
       have n3_:=Aside0.mk (blk_below (blk_up BK187.out) hb)
       have n4_:=Aside0.mk (blk_below (blk_up BK192.out) hb)
       have n5_:=Aside0.mk (below_step (below_go HB.out) hb)
       have n6_:=Aside0.mk (hbox)
       have n7_:=Aside0.mk ((by rw [hg];exact (below_size (below_go HB.out)) : w.heap.size≤gb197))
       have n8_:=Aside0.mk ((by rw [hg];exact (below_size (below_go HB.out)) : w.heap.size≤gb197))
       have n9_:=Aside0.mk ((by rw [hg];exact Nat.ne_of_lt (blk_lt (blk_up BK176.out)) : gb176≠gb197))
       have n10_:=Aside0.mk ((by rw [hg];exact Nat.ne_of_gt (blk_lt (blk_up BK176.out)) : gb197≠gb176))
       have n11_:=Aside0.mk ((by rw [hg];exact Nat.ne_of_lt (blk_lt (blk_up BK181.out)) : gb181≠gb197))
       have n12_:=Aside0.mk ((by rw [hg];exact Nat.ne_of_gt (blk_lt (blk_up BK181.out)) : gb197≠gb181))
       have n13_:=Aside0.mk ((by rw [hg];exact Nat.ne_of_lt (blk_lt (blk_up BK184.out)) : gb184≠gb197))
       have n14_:=Aside0.mk ((by rw [hg];exact Nat.ne_of_gt (blk_lt (blk_up BK184.out)) : gb197≠gb184))
       have n15_:=Aside0.mk ((by rw [hg];exact Nat.ne_of_lt (blk_lt (blk_up BK187.out)) : gb187≠gb197))
       have n16_:=Aside0.mk ((by rw [hg];exact Nat.ne_of_gt (blk_lt (blk_up BK187.out)) : gb197≠gb187))
       have n17_:=Aside0.mk ((by rw [hg];exact Nat.ne_of_lt (blk_lt (blk_up BK192.out)) : gb192≠gb197))
       have n18_:=Aside0.mk ((by rw [hg];exact Nat.ne_of_gt (blk_lt (blk_up BK192.out)) : gb197≠gb192))
       clear BK176
       clear BK181
       clear BK184
       clear BK187
       clear BK192
       clear HB
       have BK176:=n0_
       have BK181:=n1_
       have BK184:=n2_
       have BK187:=n3_
       have BK192:=n4_
       have HB:=n5_
       have BK197:=n6_
       have GW197:=n7_
       have GE197:=n8_
       have NB176_197:=n9_
       have NB197_176:=n10_
       have NB181_197:=n11_
       have NB197_181:=n12_
       have NB184_197:=n13_
       have NB197_184:=n14_
       have NB187_197:=n15_
       have NB197_187:=n16_
       have NB192_197:=n17_
       have NB197_192:=n18_
       clear n0_ n1_ n2_ n3_ n4_ n5_ n6_ n7_ n8_ n9_ n10_ n11_ n12_ n13_ n14_ n15_ n16_ n17_ n18_
       clear hb hbox hg
       refine hK.out _ _ ⟨(blk_cell BK181.out 0).trans rfl,(blk_cell BK181.out 1).trans rfl,(blk_cell BK184.out 0).trans rfl,(blk_cell BK184.out 1).trans rfl,(blk_cell BK187.out 0).trans rfl,(blk_cell BK187.out 1).trans rfl⟩ (fun hHeld=>?_)
       clear hK K
       refine norm_ (a':=?_) ?_ ?_
       rotate_left
       ·show Act.put _ (some 11) _=_
        simp only [Act.put,List.setIfInBounds_toArray,List.set_cons_zero,List.set_cons_succ,i64_w,i32_w]
        rfl
       refine one_ (i:=6) (N:=some 40) #[true,true,true,true,true,true,true,true,false] rfl rfl (one_of HT_.out (by kernel_rfl)) (by decide) (fun K hK=>?_)
       refine goes_ Tryd.func14 (by kernel_rfl) rfl #[.int .i64 t178,.agg #[.int .i64 t179,.string t180],.agg #[.int .i64 t193,.string t194]] (by rfl) rfl rfl (by (try simp only [List.map_toArray,List.map_cons,List.map_nil]);first|done|rfl|(simp only [List.length_drop,List.length_take];rfl)) ?_
       with_reducible refine (value_Add.calls k t178 t179 t180 t193 t194 t195 t196 _ A11.out).mono ?_
       rintro e w45 ⟨rfl,hb⟩
       refine ⟨_,rfl,?_⟩
       have n0_:=Aside0.mk (blk_below (blk_up BK176.out) hb)
       have n1_:=Aside0.mk (blk_below (blk_up BK181.out) hb)
       have n2_:=Aside0.mk (blk_below (blk_up BK184.out) hb)
       have n3_:=Aside0.mk (blk_below (blk_up BK187.out) hb)
       have n4_:=Aside0.mk (blk_below (blk_up BK192.out) hb)
       have n5_:=Aside0.mk (blk_below (g:=gb197) (o:=.cells #[.int .i64 0,.string (⟨#[]⟩ : ByteArray)] 23 (0,0)) (blk_up BK197.out) hb)
       have n6_:=Aside0.mk (below_step (below_go HB.out) hb)
       clear BK176
       clear BK181
       clear BK184
       clear BK187
       clear BK192
       clear BK197
       clear HB
       have BK176:=n0_
       have BK181:=n1_
       have BK184:=n2_
       have BK187:=n3_
       have BK192:=n4_
       have BK197:=n5_
       have HB:=n6_
       clear n0_ n1_ n2_ n3_ n4_ n5_ n6_
       (try clear hb)
       (try clear hb2)
       (try clear hk)
       (try clear hi)
       refine hK.out _ _ ⟨(blk_cell BK181.out 0).trans rfl,(blk_cell BK181.out 1).trans rfl,(blk_cell BK184.out 0).trans rfl,(blk_cell BK184.out 1).trans rfl,(blk_cell BK187.out 0).trans rfl,(blk_cell BK187.out 1).trans rfl⟩ (fun hHeld=>?_)
       clear hK K
       refine norm_ (a':=?_) ?_ ?_
       rotate_left
       ·show Act.put _ (some 40) _=_
        simp only [Act.put,List.setIfInBounds_toArray,List.set_cons_zero,List.set_cons_succ,i64_w,i32_w]
        rfl
       exact norm_ (by simp only [putAll,Act.put,List.setIfInBounds_toArray,List.set_cons_zero,List.set_cons_succ]) (hCont (gb197) _ ⟨hHeld,(blk_up BK176.out),(blk_up BK181.out),(blk_up BK184.out),(blk_up BK187.out),(blk_up BK192.out),(blk_up BK197.out),GW197.out,GE197.out,NB176_197.out,NB197_176.out,NB181_197.out,NB197_181.out,NB184_197.out,NB197_184.out,NB187_197.out,NB197_187.out,NB192_197.out,NB197_192.out,(below_go HB.out)⟩)
     ·skip
      refine box_step ?hg (N:=11) ?hd (cs:=#[.int .i64 0,.string (⟨#[]⟩ : ByteArray)]) (t:=23) ?hr ?_;(case hd=>rfl);(case hg=>rfl);(case hr=>first|(go_simp;done)|(go_simp;rfl))
      intro gb197 hg w43 hbox hb
      have n0_:=Aside0.mk (blk_below (blk_up BK176.out) hb)
      have n1_:=Aside0.mk (blk_below (blk_up BK181.out) hb)
      have n2_:=Aside0.mk (blk_below (blk_up BK184.out) hb)
      have n3_:=Aside0.mk (blk_below (blk_up BK187.out) hb)
      have n4_:=Aside0.mk (blk_below (blk_up BK192.out) hb)
      have n5_:=Aside0.mk (below_step (below_go HB.out) hb)
      have n6_:=Aside0.mk (hbox)
      have n7_:=Aside0.mk ((by rw [hg];exact (below_size (below_go HB.out)) : w.heap.size≤gb197))
      have n8_:=Aside0.mk ((by rw [hg];exact (below_size (below_go HB.out)) : w.heap.size≤gb197))
      have n9_:=Aside0.mk ((by rw [hg];exact Nat.ne_of_lt (blk_lt (blk_up BK176.out)) : gb176≠gb197))
      have n10_:=Aside0.mk ((by rw [hg];exact Nat.ne_of_gt (blk_lt (blk_up BK176.out)) : gb197≠gb176))
      have n11_:=Aside0.mk ((by rw [hg];exact Nat.ne_of_lt (blk_lt (blk_up BK181.out)) : gb181≠gb197))
      have n12_:=Aside0.mk ((by rw [hg];exact Nat.ne_of_gt (blk_lt (blk_up BK181.out)) : gb197≠gb181))
      have n13_:=Aside0.mk ((by rw [hg];exact Nat.ne_of_lt (blk_lt (blk_up BK184.out)) : gb184≠gb197))
      have n14_:=Aside0.mk ((by rw [hg];exact Nat.ne_of_gt (blk_lt (blk_up BK184.out)) : gb197≠gb184))
      have n15_:=Aside0.mk ((by rw [hg];exact Nat.ne_of_lt (blk_lt (blk_up BK187.out)) : gb187≠gb197))
      have n16_:=Aside0.mk ((by rw [hg];exact Nat.ne_of_gt (blk_lt (blk_up BK187.out)) : gb197≠gb187))
      have n17_:=Aside0.mk ((by rw [hg];exact Nat.ne_of_lt (blk_lt (blk_up BK192.out)) : gb192≠gb197))
      have n18_:=Aside0.mk ((by rw [hg];exact Nat.ne_of_gt (blk_lt (blk_up BK192.out)) : gb197≠gb192))
      clear BK176
      clear BK181
      clear BK184
      clear BK187
      clear BK192
      clear HB
      have BK176:=n0_
      have BK181:=n1_
      have BK184:=n2_
      have BK187:=n3_
      have BK192:=n4_
      have HB:=n5_
      have BK197:=n6_
      have GW197:=n7_
      have GE197:=n8_
      have NB176_197:=n9_
      have NB197_176:=n10_
      have NB181_197:=n11_
      have NB197_181:=n12_
      have NB184_197:=n13_
      have NB197_184:=n14_
      have NB187_197:=n15_
      have NB197_187:=n16_
      have NB192_197:=n17_
      have NB197_192:=n18_
      clear n0_ n1_ n2_ n3_ n4_ n5_ n6_ n7_ n8_ n9_ n10_ n11_ n12_ n13_ n14_ n15_ n16_ n17_ n18_
      clear hb hbox hg
      refine hK.out _ _ ⟨(blk_cell BK181.out 0).trans rfl,(blk_cell BK181.out 1).trans rfl,(blk_cell BK184.out 0).trans rfl,(blk_cell BK184.out 1).trans rfl,(blk_cell BK187.out 0).trans rfl,(blk_cell BK187.out 1).trans rfl⟩ (fun hHeld=>?_)
      clear hK K
      refine norm_ (a':=?_) ?_ ?_
      rotate_left
      ·show Act.put _ (some 11) _=_
       simp only [Act.put,List.setIfInBounds_toArray,List.set_cons_zero,List.set_cons_succ,i64_w,i32_w]
       rfl
      refine one_ (i:=5) (N:=some 39) #[true,true,true,true,true,true,false,true,false] rfl rfl (one_of HT_.out (by kernel_rfl)) (by decide) (fun K hK=>?_)
      refine goes_ Tryd.func14 (by kernel_rfl) rfl #[.int .i64 t178,.agg #[.int .i64 t182,.string t183],.agg #[.int .i64 t185,.string t186]] (by rfl) rfl rfl (by (try simp only [List.map_toArray,List.map_cons,List.map_nil]);first|done|rfl|(simp only [List.length_drop,List.length_take];rfl)) ?_
      with_reducible refine (value_Add.calls k t178 t182 t183 t185 t186 t193 t194 _ A10.out).mono ?_
      rintro e w44 ⟨rfl,hb⟩
      refine ⟨_,rfl,?_⟩
      have n0_:=Aside0.mk (blk_below (blk_up BK176.out) hb)
      have n1_:=Aside0.mk (blk_below (blk_up BK181.out) hb)
      have n2_:=Aside0.mk (blk_below (blk_up BK184.out) hb)
      have n3_:=Aside0.mk (blk_below (blk_up BK187.out) hb)
      have n4_:=Aside0.mk (blk_below (blk_up BK192.out) hb)
      have n5_:=Aside0.mk (blk_below (g:=gb197) (o:=.cells #[.int .i64 0,.string (⟨#[]⟩ : ByteArray)] 23 (0,0)) (blk_up BK197.out) hb)
      have n6_:=Aside0.mk (below_step (below_go HB.out) hb)
      clear BK176
      clear BK181
      clear BK184
      clear BK187
      clear BK192
      clear BK197
      clear HB
      have BK176:=n0_
      have BK181:=n1_
      have BK184:=n2_
      have BK187:=n3_
      have BK192:=n4_
      have BK197:=n5_
      have HB:=n6_
      clear n0_ n1_ n2_ n3_ n4_ n5_ n6_
      (try clear hb)
      (try clear hb2)
      (try clear hk)
      (try clear hi)
      refine hK.out _ _ ⟨(blk_cell BK181.out 0).trans rfl,(blk_cell BK181.out 1).trans rfl,(blk_cell BK184.out 0).trans rfl,(blk_cell BK184.out 1).trans rfl,(blk_cell BK187.out 0).trans rfl,(blk_cell BK187.out 1).trans rfl⟩ (fun hHeld=>?_)
      clear hK K
      refine norm_ (a':=?_) ?_ ?_
      rotate_left
      ·show Act.put _ (some 39) _=_
       simp only [Act.put,List.setIfInBounds_toArray,List.set_cons_zero,List.set_cons_succ,i64_w,i32_w]
       rfl
      refine one_ (i:=6) (N:=some 40) #[true,true,true,true,true,true,true,true,false] rfl rfl (one_of HT_.out (by kernel_rfl)) (by decide) (fun K hK=>?_)
      refine goes_ Tryd.func14 (by kernel_rfl) rfl #[.int .i64 t178,.agg #[.int .i64 t179,.string t180],.agg #[.int .i64 t193,.string t194]] (by rfl) rfl rfl (by (try simp only [List.map_toArray,List.map_cons,List.map_nil]);first|done|rfl|(simp only [List.length_drop,List.length_take];rfl)) ?_
      with_reducible refine (value_Add.calls k t178 t179 t180 t193 t194 t195 t196 _ A11.out).mono ?_
      rintro e w45 ⟨rfl,hb⟩
      refine ⟨_,rfl,?_⟩
      have n0_:=Aside0.mk (blk_below (blk_up BK176.out) hb)
      have n1_:=Aside0.mk (blk_below (blk_up BK181.out) hb)
      have n2_:=Aside0.mk (blk_below (blk_up BK184.out) hb)
      have n3_:=Aside0.mk (blk_below (blk_up BK187.out) hb)
      have n4_:=Aside0.mk (blk_below (blk_up BK192.out) hb)
      have n5_:=Aside0.mk (blk_below (g:=gb197) (o:=.cells #[.int .i64 0,.string (⟨#[]⟩ : ByteArray)] 23 (0,0)) (blk_up BK197.out) hb)
      have n6_:=Aside0.mk (below_step (below_go HB.out) hb)
      clear BK176
      clear BK181
      clear BK184
      clear BK187
      clear BK192
      clear BK197
      clear HB
      have BK176:=n0_
      have BK181:=n1_
      have BK184:=n2_
      have BK187:=n3_
      have BK192:=n4_
      have BK197:=n5_
      have HB:=n6_
      clear n0_ n1_ n2_ n3_ n4_ n5_ n6_
      (try clear hb)
      (try clear hb2)
      (try clear hk)
      (try clear hi)
      refine hK.out _ _ ⟨(blk_cell BK181.out 0).trans rfl,(blk_cell BK181.out 1).trans rfl,(blk_cell BK184.out 0).trans rfl,(blk_cell BK184.out 1).trans rfl,(blk_cell BK187.out 0).trans rfl,(blk_cell BK187.out 1).trans rfl⟩ (fun hHeld=>?_)
      clear hK K
      refine norm_ (a':=?_) ?_ ?_
      rotate_left
      ·show Act.put _ (some 40) _=_
       simp only [Act.put,List.setIfInBounds_toArray,List.set_cons_zero,List.set_cons_succ,i64_w,i32_w]
       rfl
      exact norm_ (by simp only [putAll,Act.put,List.setIfInBounds_toArray,List.set_cons_zero,List.set_cons_succ]) (hCont (gb197) _ ⟨hHeld,(blk_up BK176.out),(blk_up BK181.out),(blk_up BK184.out),(blk_up BK187.out),(blk_up BK192.out),(blk_up BK197.out),GW197.out,GE197.out,NB176_197.out,NB197_176.out,NB181_197.out,NB197_181.out,NB184_197.out,NB197_184.out,NB187_197.out,NB197_187.out,NB192_197.out,NB197_192.out,(below_go HB.out)⟩)
    rintro gb197 w46 ⟨hS_,h0_,h1_,h2_,h3_,h4_,h5_,h6_,h7_,h8_,h9_,h10_,h11_,h12_,h13_,h14_,h15_,h16_,h17_,h18_⟩
    have n0_ : Aside0 (w46.heap[gb176]?=some (.cells #[.int .i64 a1_0,.string a1_1,.int .i64 a1_2,.string a1_3,.int .i64 a1_4,.string a1_5] 24 (0,0))):=⟨h0_⟩
    have n1_ : Aside0 (w46.heap[gb181]?=some (.cells #[.int .i64 t179,.string t180] 23 (0,0))):=⟨h1_⟩
    have n2_ : Aside0 (w46.heap[gb184]?=some (.cells #[.int .i64 t182,.string t183] 23 (0,0))):=⟨h2_⟩
    have n3_ : Aside0 (w46.heap[gb187]?=some (.cells #[.int .i64 t185,.string t186] 23 (0,0))):=⟨h3_⟩
    have n4_ : Aside0 (w46.heap[gb192]?=some (.cells #[.int .i64 t190,.string t191] 23 (0,0))):=⟨h4_⟩
    have n5_ : Aside0 (w46.heap[gb197]?=some (.cells #[.int .i64 0,.string (⟨#[]⟩ : ByteArray)] 23 (0,0))):=⟨h5_⟩
    have n6_ : Aside0 (w.heap.size≤gb197):=⟨h6_⟩
    have n7_ : Aside0 (w.heap.size≤gb197):=⟨h7_⟩
    have n8_ : Aside0 (gb176≠gb197):=⟨h8_⟩
    have n9_ : Aside0 (gb197≠gb176):=⟨h9_⟩
    have n10_ : Aside0 (gb181≠gb197):=⟨h10_⟩
    have n11_ : Aside0 (gb197≠gb181):=⟨h11_⟩
    have n12_ : Aside0 (gb184≠gb197):=⟨h12_⟩
    have n13_ : Aside0 (gb197≠gb184):=⟨h13_⟩
    have n14_ : Aside0 (gb187≠gb197):=⟨h14_⟩
    have n15_ : Aside0 (gb197≠gb187):=⟨h15_⟩
    have n16_ : Aside0 (gb192≠gb197):=⟨h16_⟩
    have n17_ : Aside0 (gb197≠gb192):=⟨h17_⟩
    have n18_ : Aside0 (Below w.heap.size w w46):=⟨h18_⟩
    clear BK176
    clear BK181
    clear BK184
    clear BK187
    clear BK192
    clear HB
    clear h0_ h1_ h2_ h3_ h4_ h5_ h6_ h7_ h8_ h9_ h10_ h11_ h12_ h13_ h14_ h15_ h16_ h17_ h18_
    have BK176:=n0_
    have BK181:=n1_
    have BK184:=n2_
    have BK187:=n3_
    have BK192:=n4_
    have BK197:=n5_
    have GW197:=n6_
    have GE197:=n7_
    have NB176_197:=n8_
    have NB197_176:=n9_
    have NB181_197:=n10_
    have NB197_181:=n11_
    have NB184_197:=n12_
    have NB197_184:=n13_
    have NB187_197:=n14_
    have NB197_187:=n15_
    have NB192_197:=n16_
    have NB197_192:=n17_
    have HB:=n18_
    clear n0_ n1_ n2_ n3_ n4_ n5_ n6_ n7_ n8_ n9_ n10_ n11_ n12_ n13_ n14_ n15_ n16_ n17_ n18_
    have hHeld : w46.cell? ⟨gb181,0,none⟩=some (.int .i64 t179)∧w46.cell? ⟨gb181,1,none⟩=some (.string t180)∧w46.cell? ⟨gb184,0,none⟩=some (.int .i64 t182)∧w46.cell? ⟨gb184,1,none⟩=some (.string t183)∧w46.cell? ⟨gb187,0,none⟩=some (.int .i64 t185)∧w46.cell? ⟨gb187,1,none⟩=some (.string t186):=hS_
    refine norm_ (a':=?_) ?_ ?_
    rotate_left
    ·simp only [putAll,Act.put,List.setIfInBounds_toArray,List.set_cons_zero,List.set_cons_succ]
     rfl
    refine one_ (i:=8) (N:=none) #[true,true,true,true,true,true,true,true,true] rfl rfl (one_of HT_.out (by kernel_rfl)) (by decide) (fun K hK=>?_)
    have hs47 : w46.cell? ⟨gb197,0,none⟩=some (.int .i64 0):=(blk_cell BK197.out 0).trans rfl
    have hfs47:=blk_frozen BK197.out 0
    have hns47_0:=NB176_197.out
    have hns47_1:=NB181_197.out
    have hns47_2:=NB184_197.out
    have hns47_3:=NB187_197.out
    have hns47_4:=NB192_197.out
    have hms47_0:=NB197_176.out
    have hms47_1:=NB197_181.out
    have hms47_2:=NB197_184.out
    have hms47_3:=NB197_187.out
    have hms47_4:=NB197_192.out
    have hs48 : w46.cell? ⟨gb197,1,none⟩=some (.string (⟨#[]⟩ : ByteArray)):=(blk_cell BK197.out 1).trans rfl
    have hfs48:=blk_frozen BK197.out 1
    have hns48_0:=NB176_197.out
    have hns48_1:=NB181_197.out
    have hns48_2:=NB184_197.out
    have hns48_3:=NB187_197.out
    have hns48_4:=NB192_197.out
    have hms48_0:=NB197_176.out
    have hms48_1:=NB197_181.out
    have hms48_2:=NB197_184.out
    have hms48_3:=NB197_187.out
    have hms48_4:=NB197_192.out
    refine skip_ (w1:=?_) (by rfl) rfl ?_ ?_
    rotate_left
    ·go_simp
     rfl
    refine hK.out _ _ ⟨((cell_far (p:=⟨gb197,_,none⟩) NB181_197.out _).trans (((cell_far (p:=⟨gb197,_,none⟩) NB181_197.out _).trans (hHeld.1)))),((cell_far (p:=⟨gb197,_,none⟩) NB181_197.out _).trans (((cell_far (p:=⟨gb197,_,none⟩) NB181_197.out _).trans (hHeld.2.1)))),((cell_far (p:=⟨gb197,_,none⟩) NB184_197.out _).trans (((cell_far (p:=⟨gb197,_,none⟩) NB184_197.out _).trans (hHeld.2.2.1)))),((cell_far (p:=⟨gb197,_,none⟩) NB184_197.out _).trans (((cell_far (p:=⟨gb197,_,none⟩) NB184_197.out _).trans (hHeld.2.2.2.1)))),((cell_far (p:=⟨gb197,_,none⟩) NB187_197.out _).trans (((cell_far (p:=⟨gb197,_,none⟩) NB187_197.out _).trans (hHeld.2.2.2.2.1)))),((cell_far (p:=⟨gb197,_,none⟩) NB187_197.out _).trans (((cell_far (p:=⟨gb197,_,none⟩) NB187_197.out _).trans (hHeld.2.2.2.2.2))))⟩ (fun hHeld=>?_)
    clear hK K
    refine done_ (done_of HT_.out (by kernel_rfl)) ?_
    (try clear hHeld)
    have hnb49:=NB192_176.out
    have hnc49:=NB176_192.out
    have hnb50:=NB192_181.out
    have hnc50:=NB181_192.out
    have hnb51:=NB192_184.out
    have hnc51:=NB184_192.out
    have hnb52:=NB192_187.out
    have hnc52:=NB187_192.out
    have hnb53:=NB192_197.out
    have hnc53:=NB197_192.out
    have hcz54_0 : w46.cell? ⟨gb192,0,none⟩=some (.int .i64 t190):=(blk_cell BK192.out 0).trans rfl
    have hcz54_1 : w46.cell? ⟨gb192,1,none⟩=some (.string t191):=(blk_cell BK192.out 1).trans rfl
    have hfz54_0:=blk_frozen BK192.out 0
    have hfz54_1:=blk_frozen BK192.out 1
    have hnb55:=NB197_176.out
    have hnc55:=NB176_197.out
    have hnb56:=NB197_181.out
    have hnc56:=NB181_197.out
    have hnb57:=NB197_184.out
    have hnc57:=NB184_197.out
    have hnb58:=NB197_187.out
    have hnc58:=NB187_197.out
    have hcz59_0 : w46.cell? ⟨gb197,0,none⟩=some (.int .i64 0):=(blk_cell BK197.out 0).trans rfl
    have hcz59_1 : w46.cell? ⟨gb197,1,none⟩=some (.string (⟨#[]⟩ : ByteArray)):=(blk_cell BK197.out 1).trans rfl
    have hfz59_0:=blk_frozen BK197.out 0
    have hfz59_1:=blk_frozen BK197.out 1
    try go_wp2
    go_ret
    exact ⟨by first|rfl|(simp [errW_none,errW_some] <;> rfl)|(simp [*,errW_none,errW_some] <;> rfl),by repeat (first|(with_reducible first|exact HB.out|apply below_alloc|apply pw_below_drewN|apply below_drew1|refine below_set ?_ GE176.out|refine below_set ?_ GE181.out|refine below_set ?_ GE184.out|refine below_set ?_ GE187.out|refine below_set ?_ GE192.out|refine below_set ?_ GE197.out)|exact HB.out)⟩
   ·rw [if_neg c12] at H
    have c12b0 : (!(t190 == t195) || (!(t191.toList == t196.toList)))=false:=by simpa using c12
    clear c12
    by_cases c60 : t178=3
    ·rw [if_pos c60] at H
     have c60b0 : (t178 == 3)=true:=beq_iff_eq.mpr c60
     have c60b1 : (t178 != 3)=false:=bne_eq_false_iff_eq.mpr c60
     clear c60
     by_cases c61 : t177=true
     ·subst c61
      have H1 : (some (t190 == t185 && (t191.toList == t186.toList)))=some r:=by rw [if_pos rfl] at H;exact H
      clear H
      have H:=H1
      clear H1
      obtain rfl:=Option.some.inj H
      go_enter Tryd.func6,Tryd.ntmps6
      try go_wp2_with (first|((with_reducible refine gate_dst (N:=3) rfl ?_);refine box_event ?hg (N:=3) ?hd (cs:=#[.int .i64 a1_0,.string a1_1,.int .i64 a1_2,.string a1_3,.int .i64 a1_4,.string a1_5]) (t:=24) ?hr ?_;(case hd=>rfl);(case hg=>rfl);(case hr=>first|(go_simp;done)|(go_simp;rfl));intro gb176 hg w62 hbox hb;have n0_:=Aside0.mk (below_step (below_up HB.out) hb);have n1_:=Aside0.mk (hbox);have n2_:=Aside0.mk ((by rw [hg];exact (below_size (below_up HB.out)) : w.heap.size≤gb176));have n3_:=Aside0.mk ((by rw [hg];exact (below_size (below_up HB.out)) : w.heap.size≤gb176));clear HB;have HB:=n0_;have BK176:=n1_;have GW176:=n2_;have GE176:=n3_;clear n0_ n1_ n2_ n3_;clear hb hbox hg)|((with_reducible refine gate_callee (f:=9) rfl ?_);refine goesL_ (some 12) rfl rfl Tryd.func9 (by kernel_rfl) rfl #[] rfl (by (try simp only [List.map_toArray,List.map_cons,List.map_nil]);first|done|rfl|(simp only [List.length_drop,List.length_take];rfl)) ?_;(with_reducible refine (thresherlaw03_shown.calls k  true _ A3.out (HTAB_.out.on (below_go HB.out))).mono ?_);rintro e w63 ⟨rfl,hb⟩;refine ⟨_,rfl,?_⟩;have n0_:=Aside0.mk (blk_below (blk_up BK176.out) hb);have n1_:=Aside0.mk (below_step (below_go HB.out) hb);clear BK176;clear HB;have BK176:=n0_;have HB:=n1_;clear n0_ n1_;(try clear hb);(try clear hb2);(try clear hk);(try clear hi))|((with_reducible refine gate_callee (f:=10) rfl ?_);refine goesL_ (some 14) rfl rfl Tryd.func10 (by kernel_rfl) rfl #[.int .u8 a0] rfl (by (try simp only [List.map_toArray,List.map_cons,List.map_nil]);first|done|rfl|(simp only [List.length_drop,List.length_take];rfl)) ?_;(with_reducible refine (thresherlaw03_kind.calls a0 t178 _ A4.out).mono ?_);rintro e w' ⟨rfl,⟨nd,rfl⟩⟩;refine ⟨_,rfl,?_⟩;(try (rw [drewN_self w63];generalize hq_ : World.drewN w63 _=w63;have n0_ : Aside0 (w63.heap[gb176]?=some (.cells #[.int .i64 a1_0,.string a1_1,.int .i64 a1_2,.string a1_3,.int .i64 a1_4,.string a1_5] 24 (0,0))):=⟨by rw [← hq_];exact (blk_up BK176.out)⟩;have n1_ : Aside0 (Below w.heap.size w w63):=⟨by rw [← hq_];exact (below_go HB.out)⟩;clear BK176 HB hq_;have BK176:=n0_;have HB:=n1_;clear n0_ n1_));have hcz64_0 : w63.cell? ⟨gb176,0,none⟩=some (.int .i64 a1_0):=(blk_cell BK176.out 0).trans rfl;have hcz64_1 : w63.cell? ⟨gb176,1,none⟩=some (.string a1_1):=(blk_cell BK176.out 1).trans rfl;have hcz64_2 : w63.cell? ⟨gb176,2,none⟩=some (.int .i64 a1_2):=(blk_cell BK176.out 2).trans rfl;have hcz64_3 : w63.cell? ⟨gb176,3,none⟩=some (.string a1_3):=(blk_cell BK176.out 3).trans rfl;have hcz64_4 : w63.cell? ⟨gb176,4,none⟩=some (.int .i64 a1_4):=(blk_cell BK176.out 4).trans rfl;have hcz64_5 : w63.cell? ⟨gb176,5,none⟩=some (.string a1_5):=(blk_cell BK176.out 5).trans rfl;have hfz64_0:=blk_frozen BK176.out 0;have hfz64_1:=blk_frozen BK176.out 1;have hfz64_2:=blk_frozen BK176.out 2;have hfz64_3:=blk_frozen BK176.out 3;have hfz64_4:=blk_frozen BK176.out 4;have hfz64_5:=blk_frozen BK176.out 5)|((with_reducible refine gate_callee (f:=11) rfl ?_);refine goesL_ (some 18) rfl rfl Tryd.func11 (by kernel_rfl) rfl #[.int .i64 t178,.agg #[.int .i64 a1_0,.string a1_1]] rfl (by (try simp only [List.map_toArray,List.map_cons,List.map_nil]);first|done|rfl|(simp only [List.length_drop,List.length_take];rfl)) ?_;(with_reducible refine (thresherlaw03_fit.calls t178 a1_0 a1_1 t179 t180 _ A5.out).mono ?_);rintro e w65 ⟨rfl,hb⟩;refine ⟨_,rfl,?_⟩;have n0_:=Aside0.mk (blk_below (blk_up BK176.out) hb);have n1_:=Aside0.mk (below_step (below_go HB.out) hb);clear BK176;clear HB;have BK176:=n0_;have HB:=n1_;clear n0_ n1_;(try clear hb);(try clear hb2);(try clear hk);(try clear hi))|((with_reducible refine gate_dst (N:=7) rfl ?_);refine box_event ?hg (N:=7) ?hd (cs:=#[.int .i64 0,.string (⟨#[]⟩ : ByteArray)]) (t:=23) ?hr ?_;(case hd=>rfl);(case hg=>rfl);(case hr=>first|(go_simp;done)|(go_simp;rfl));intro gb181 hg w66 hbox hb;have n0_:=Aside0.mk (blk_below (blk_up BK176.out) hb);have n1_:=Aside0.mk (below_step (below_go HB.out) hb);have n2_:=Aside0.mk (hbox);have n3_:=Aside0.mk ((by rw [hg];exact (below_size (below_go HB.out)) : w.heap.size≤gb181));have n4_:=Aside0.mk ((by rw [hg];exact (below_size (below_go HB.out)) : w.heap.size≤gb181));have n5_:=Aside0.mk ((by rw [hg];exact Nat.ne_of_lt (blk_lt (blk_up BK176.out)) : gb176≠gb181));have n6_:=Aside0.mk ((by rw [hg];exact Nat.ne_of_gt (blk_lt (blk_up BK176.out)) : gb181≠gb176));clear BK176;clear HB;have BK176:=n0_;have HB:=n1_;have BK181:=n2_;have GW181:=n3_;have GE181:=n4_;have NB176_181:=n5_;have NB181_176:=n6_;clear n0_ n1_ n2_ n3_ n4_ n5_ n6_;clear hb hbox hg;have hnb67:=NB181_176.out;have hnc67:=NB176_181.out;have hcz68_0 : w66.cell? ⟨gb181,0,none⟩=some (.int .i64 0):=(blk_cell BK181.out 0).trans rfl;have hcz68_1 : w66.cell? ⟨gb181,1,none⟩=some (.string (⟨#[]⟩ : ByteArray)):=(blk_cell BK181.out 1).trans rfl;have hfz68_0:=blk_frozen BK181.out 0;have hfz68_1:=blk_frozen BK181.out 1;have hcz69_0 : w66.cell? ⟨gb176,0,none⟩=some (.int .i64 a1_0):=(blk_cell BK176.out 0).trans rfl;have hcz69_1 : w66.cell? ⟨gb176,1,none⟩=some (.string a1_1):=(blk_cell BK176.out 1).trans rfl;have hcz69_2 : w66.cell? ⟨gb176,2,none⟩=some (.int .i64 a1_2):=(blk_cell BK176.out 2).trans rfl;have hcz69_3 : w66.cell? ⟨gb176,3,none⟩=some (.string a1_3):=(blk_cell BK176.out 3).trans rfl;have hcz69_4 : w66.cell? ⟨gb176,4,none⟩=some (.int .i64 a1_4):=(blk_cell BK176.out 4).trans rfl;have hcz69_5 : w66.cell? ⟨gb176,5,none⟩=some (.string a1_5):=(blk_cell BK176.out 5).trans rfl;have hfz69_0:=blk_frozen BK176.out 0;have hfz69_1:=blk_frozen BK176.out 1;have hfz69_2:=blk_frozen BK176.out 2;have hfz69_3:=blk_frozen BK176.out 3;have hfz69_4:=blk_frozen BK176.out 4;have hfz69_5:=blk_frozen BK176.out 5)|((with_reducible refine gate_callee (f:=11) rfl ?_);refine goesL_ (some 22) rfl rfl Tryd.func11 (by kernel_rfl) rfl #[.int .i64 t178,.agg #[.int .i64 a1_2,.string a1_3]] rfl (by (try simp only [List.map_toArray,List.map_cons,List.map_nil]);first|done|rfl|(simp only [List.length_drop,List.length_take];rfl)) ?_;(with_reducible refine (thresherlaw03_fit.calls t178 a1_2 a1_3 t182 t183 _ A6.out).mono ?_);rintro e w70 ⟨rfl,hb⟩;refine ⟨_,rfl,?_⟩;have n0_:=Aside0.mk (blk_below (g:=gb176) (o:=.cells #[.int .i64 a1_0,.string a1_1,.int .i64 a1_2,.string a1_3,.int .i64 a1_4,.string a1_5] 24 (0,0)) (by (with_reducible repeat (first|refine blk_drewN ?_ _|refine blk_drew ?_|refine blk_alloc ?_ _));refine blk_far ?_ NB176_181.out _;(with_reducible repeat (first|refine blk_drewN ?_ _|refine blk_drew ?_|refine blk_alloc ?_ _));refine blk_far ?_ NB176_181.out _;(with_reducible repeat (first|refine blk_drewN ?_ _|refine blk_drew ?_|refine blk_alloc ?_ _));exact BK176.out) hb);have n1_:=Aside0.mk (blk_below (g:=gb181) (o:=.cells #[.int .i64 t179,.string t180] 23 (0,0)) (by (with_reducible repeat (first|refine blk_drewN ?_ _|refine blk_drew ?_|refine blk_alloc ?_ _));refine blk_put (cs:=#[.int .i64 t179,.string (⟨#[]⟩ : ByteArray)]) ?_ 1 _ rfl;(with_reducible repeat (first|refine blk_drewN ?_ _|refine blk_drew ?_|refine blk_alloc ?_ _));refine blk_put (cs:=#[.int .i64 0,.string (⟨#[]⟩ : ByteArray)]) ?_ 0 _ rfl;(with_reducible repeat (first|refine blk_drewN ?_ _|refine blk_drew ?_|refine blk_alloc ?_ _));exact BK181.out) hb);have n2_:=Aside0.mk (below_step (below_go HB.out) hb);clear BK176;clear BK181;clear HB;have BK176:=n0_;have BK181:=n1_;have HB:=n2_;clear n0_ n1_ n2_;(try clear hb);(try clear hb2);(try clear hk);(try clear hi))|((with_reducible refine gate_dst (N:=8) rfl ?_);refine box_event ?hg (N:=8) ?hd (cs:=#[.int .i64 0,.string (⟨#[]⟩ : ByteArray)]) (t:=23) ?hr ?_;(case hd=>rfl);(case hg=>rfl);(case hr=>first|(go_simp;done)|(go_simp;rfl));intro gb184 hg w71 hbox hb;have n0_:=Aside0.mk (blk_below (blk_up BK176.out) hb);have n1_:=Aside0.mk (blk_below (blk_up BK181.out) hb);have n2_:=Aside0.mk (below_step (below_go HB.out) hb);have n3_:=Aside0.mk (hbox);have n4_:=Aside0.mk ((by rw [hg];exact (below_size (below_go HB.out)) : w.heap.size≤gb184));have n5_:=Aside0.mk ((by rw [hg];exact (below_size (below_go HB.out)) : w.heap.size≤gb184));have n6_:=Aside0.mk ((by rw [hg];exact Nat.ne_of_lt (blk_lt (blk_up BK176.out)) : gb176≠gb184));have n7_:=Aside0.mk ((by rw [hg];exact Nat.ne_of_gt (blk_lt (blk_up BK176.out)) : gb184≠gb176));have n8_:=Aside0.mk ((by rw [hg];exact Nat.ne_of_lt (blk_lt (blk_up BK181.out)) : gb181≠gb184));have n9_:=Aside0.mk ((by rw [hg];exact Nat.ne_of_gt (blk_lt (blk_up BK181.out)) : gb184≠gb181));clear BK176;clear BK181;clear HB;have BK176:=n0_;have BK181:=n1_;have HB:=n2_;have BK184:=n3_;have GW184:=n4_;have GE184:=n5_;have NB176_184:=n6_;have NB184_176:=n7_;have NB181_184:=n8_;have NB184_181:=n9_;clear n0_ n1_ n2_ n3_ n4_ n5_ n6_ n7_ n8_ n9_;clear hb hbox hg;have hnb72:=NB184_176.out;have hnc72:=NB176_184.out;have hnb73:=NB184_181.out;have hnc73:=NB181_184.out;have hcz74_0 : w71.cell? ⟨gb184,0,none⟩=some (.int .i64 0):=(blk_cell BK184.out 0).trans rfl;have hcz74_1 : w71.cell? ⟨gb184,1,none⟩=some (.string (⟨#[]⟩ : ByteArray)):=(blk_cell BK184.out 1).trans rfl;have hfz74_0:=blk_frozen BK184.out 0;have hfz74_1:=blk_frozen BK184.out 1;have hcz75_0 : w71.cell? ⟨gb176,0,none⟩=some (.int .i64 a1_0):=(blk_cell BK176.out 0).trans rfl;have hcz75_1 : w71.cell? ⟨gb176,1,none⟩=some (.string a1_1):=(blk_cell BK176.out 1).trans rfl;have hcz75_2 : w71.cell? ⟨gb176,2,none⟩=some (.int .i64 a1_2):=(blk_cell BK176.out 2).trans rfl;have hcz75_3 : w71.cell? ⟨gb176,3,none⟩=some (.string a1_3):=(blk_cell BK176.out 3).trans rfl;have hcz75_4 : w71.cell? ⟨gb176,4,none⟩=some (.int .i64 a1_4):=(blk_cell BK176.out 4).trans rfl;have hcz75_5 : w71.cell? ⟨gb176,5,none⟩=some (.string a1_5):=(blk_cell BK176.out 5).trans rfl;have hfz75_0:=blk_frozen BK176.out 0;have hfz75_1:=blk_frozen BK176.out 1;have hfz75_2:=blk_frozen BK176.out 2;have hfz75_3:=blk_frozen BK176.out 3;have hfz75_4:=blk_frozen BK176.out 4;have hfz75_5:=blk_frozen BK176.out 5)|((with_reducible refine gate_callee (f:=11) rfl ?_);refine goesL_ (some 26) rfl rfl Tryd.func11 (by kernel_rfl) rfl #[.int .i64 t178,.agg #[.int .i64 a1_4,.string a1_5]] rfl (by (try simp only [List.map_toArray,List.map_cons,List.map_nil]);first|done|rfl|(simp only [List.length_drop,List.length_take];rfl)) ?_;(with_reducible refine (thresherlaw03_fit.calls t178 a1_4 a1_5 t185 t186 _ A7.out).mono ?_);rintro e w76 ⟨rfl,hb⟩;refine ⟨_,rfl,?_⟩;have n0_:=Aside0.mk (blk_below (g:=gb176) (o:=.cells #[.int .i64 a1_0,.string a1_1,.int .i64 a1_2,.string a1_3,.int .i64 a1_4,.string a1_5] 24 (0,0)) (by (with_reducible repeat (first|refine blk_drewN ?_ _|refine blk_drew ?_|refine blk_alloc ?_ _));refine blk_far ?_ NB176_184.out _;(with_reducible repeat (first|refine blk_drewN ?_ _|refine blk_drew ?_|refine blk_alloc ?_ _));refine blk_far ?_ NB176_184.out _;(with_reducible repeat (first|refine blk_drewN ?_ _|refine blk_drew ?_|refine blk_alloc ?_ _));exact BK176.out) hb);have n1_:=Aside0.mk (blk_below (g:=gb181) (o:=.cells #[.int .i64 t179,.string t180] 23 (0,0)) (by (with_reducible repeat (first|refine blk_drewN ?_ _|refine blk_drew ?_|refine blk_alloc ?_ _));refine blk_far ?_ NB181_184.out _;(with_reducible repeat (first|refine blk_drewN ?_ _|refine blk_drew ?_|refine blk_alloc ?_ _));refine blk_far ?_ NB181_184.out _;(with_reducible repeat (first|refine blk_drewN ?_ _|refine blk_drew ?_|refine blk_alloc ?_ _));exact BK181.out) hb);have n2_:=Aside0.mk (blk_below (g:=gb184) (o:=.cells #[.int .i64 t182,.string t183] 23 (0,0)) (by (with_reducible repeat (first|refine blk_drewN ?_ _|refine blk_drew ?_|refine blk_alloc ?_ _));refine blk_put (cs:=#[.int .i64 t182,.string (⟨#[]⟩ : ByteArray)]) ?_ 1 _ rfl;(with_reducible repeat (first|refine blk_drewN ?_ _|refine blk_drew ?_|refine blk_alloc ?_ _));refine blk_put (cs:=#[.int .i64 0,.string (⟨#[]⟩ : ByteArray)]) ?_ 0 _ rfl;(with_reducible repeat (first|refine blk_drewN ?_ _|refine blk_drew ?_|refine blk_alloc ?_ _));exact BK184.out) hb);have n3_:=Aside0.mk (below_step (below_go HB.out) hb);clear BK176;clear BK181;clear BK184;clear HB;have BK176:=n0_;have BK181:=n1_;have BK184:=n2_;have HB:=n3_;clear n0_ n1_ n2_ n3_;(try clear hb);(try clear hb2);(try clear hk);(try clear hi))|((with_reducible refine gate_dst (N:=9) rfl ?_);refine box_event ?hg (N:=9) ?hd (cs:=#[.int .i64 0,.string (⟨#[]⟩ : ByteArray)]) (t:=23) ?hr ?_;(case hd=>rfl);(case hg=>rfl);(case hr=>first|(go_simp;done)|(go_simp;rfl));intro gb187 hg w77 hbox hb;have n0_:=Aside0.mk (blk_below (blk_up BK176.out) hb);have n1_:=Aside0.mk (blk_below (blk_up BK181.out) hb);have n2_:=Aside0.mk (blk_below (blk_up BK184.out) hb);have n3_:=Aside0.mk (below_step (below_go HB.out) hb);have n4_:=Aside0.mk (hbox);have n5_:=Aside0.mk ((by rw [hg];exact (below_size (below_go HB.out)) : w.heap.size≤gb187));have n6_:=Aside0.mk ((by rw [hg];exact (below_size (below_go HB.out)) : w.heap.size≤gb187));have n7_:=Aside0.mk ((by rw [hg];exact Nat.ne_of_lt (blk_lt (blk_up BK176.out)) : gb176≠gb187));have n8_:=Aside0.mk ((by rw [hg];exact Nat.ne_of_gt (blk_lt (blk_up BK176.out)) : gb187≠gb176));have n9_:=Aside0.mk ((by rw [hg];exact Nat.ne_of_lt (blk_lt (blk_up BK181.out)) : gb181≠gb187));have n10_:=Aside0.mk ((by rw [hg];exact Nat.ne_of_gt (blk_lt (blk_up BK181.out)) : gb187≠gb181));have n11_:=Aside0.mk ((by rw [hg];exact Nat.ne_of_lt (blk_lt (blk_up BK184.out)) : gb184≠gb187));have n12_:=Aside0.mk ((by rw [hg];exact Nat.ne_of_gt (blk_lt (blk_up BK184.out)) : gb187≠gb184));clear BK176;clear BK181;clear BK184;clear HB;have BK176:=n0_;have BK181:=n1_;have BK184:=n2_;have HB:=n3_;have BK187:=n4_;have GW187:=n5_;have GE187:=n6_;have NB176_187:=n7_;have NB187_176:=n8_;have NB181_187:=n9_;have NB187_181:=n10_;have NB184_187:=n11_;have NB187_184:=n12_;clear n0_ n1_ n2_ n3_ n4_ n5_ n6_ n7_ n8_ n9_ n10_ n11_ n12_;clear hb hbox hg;have hnb78:=NB187_176.out;have hnc78:=NB176_187.out;have hnb79:=NB187_181.out;have hnc79:=NB181_187.out;have hnb80:=NB187_184.out;have hnc80:=NB184_187.out;have hcz81_0 : w77.cell? ⟨gb187,0,none⟩=some (.int .i64 0):=(blk_cell BK187.out 0).trans rfl;have hcz81_1 : w77.cell? ⟨gb187,1,none⟩=some (.string (⟨#[]⟩ : ByteArray)):=(blk_cell BK187.out 1).trans rfl;have hfz81_0:=blk_frozen BK187.out 0;have hfz81_1:=blk_frozen BK187.out 1))
      have n0_ : Aside0 (((w77.setCell ⟨gb187,0,none⟩ (.int .i64 t185)).setCell ⟨gb187,1,none⟩ (.string t186)).heap[gb176]?=some (.cells #[.int .i64 a1_0,.string a1_1,.int .i64 a1_2,.string a1_3,.int .i64 a1_4,.string a1_5] 24 (0,0))):=⟨by (with_reducible repeat (first|refine blk_drewN ?_ _|refine blk_drew ?_|refine blk_alloc ?_ _));refine blk_far ?_ NB176_187.out _;(with_reducible repeat (first|refine blk_drewN ?_ _|refine blk_drew ?_|refine blk_alloc ?_ _));refine blk_far ?_ NB176_187.out _;(with_reducible repeat (first|refine blk_drewN ?_ _|refine blk_drew ?_|refine blk_alloc ?_ _));exact BK176.out⟩
      have n1_ : Aside0 (((w77.setCell ⟨gb187,0,none⟩ (.int .i64 t185)).setCell ⟨gb187,1,none⟩ (.string t186)).heap[gb181]?=some (.cells #[.int .i64 t179,.string t180] 23 (0,0))):=⟨by (with_reducible repeat (first|refine blk_drewN ?_ _|refine blk_drew ?_|refine blk_alloc ?_ _));refine blk_far ?_ NB181_187.out _;(with_reducible repeat (first|refine blk_drewN ?_ _|refine blk_drew ?_|refine blk_alloc ?_ _));refine blk_far ?_ NB181_187.out _;(with_reducible repeat (first|refine blk_drewN ?_ _|refine blk_drew ?_|refine blk_alloc ?_ _));exact BK181.out⟩
      have n2_ : Aside0 (((w77.setCell ⟨gb187,0,none⟩ (.int .i64 t185)).setCell ⟨gb187,1,none⟩ (.string t186)).heap[gb184]?=some (.cells #[.int .i64 t182,.string t183] 23 (0,0))):=⟨by (with_reducible repeat (first|refine blk_drewN ?_ _|refine blk_drew ?_|refine blk_alloc ?_ _));refine blk_far ?_ NB184_187.out _;(with_reducible repeat (first|refine blk_drewN ?_ _|refine blk_drew ?_|refine blk_alloc ?_ _));refine blk_far ?_ NB184_187.out _;(with_reducible repeat (first|refine blk_drewN ?_ _|refine blk_drew ?_|refine blk_alloc ?_ _));exact BK184.out⟩
      have n3_ : Aside0 (((w77.setCell ⟨gb187,0,none⟩ (.int .i64 t185)).setCell ⟨gb187,1,none⟩ (.string t186)).heap[gb187]?=some (.cells #[.int .i64 t185,.string t186] 23 (0,0))):=⟨by (with_reducible repeat (first|refine blk_drewN ?_ _|refine blk_drew ?_|refine blk_alloc ?_ _));refine blk_put (cs:=#[.int .i64 t185,.string (⟨#[]⟩ : ByteArray)]) ?_ 1 _ rfl;(with_reducible repeat (first|refine blk_drewN ?_ _|refine blk_drew ?_|refine blk_alloc ?_ _));refine blk_put (cs:=#[.int .i64 0,.string (⟨#[]⟩ : ByteArray)]) ?_ 0 _ rfl;(with_reducible repeat (first|refine blk_drewN ?_ _|refine blk_drew ?_|refine blk_alloc ?_ _));exact BK187.out⟩
      have n4_ : Aside0 (Below w.heap.size w ((w77.setCell ⟨gb187,0,none⟩ (.int .i64 t185)).setCell ⟨gb187,1,none⟩ (.string t186))):=⟨by repeat (first|(with_reducible first|exact HB.out|apply below_alloc|apply pw_below_drewN|apply below_drew1|refine below_set ?_ GE176.out|refine below_set ?_ GE181.out|refine below_set ?_ GE184.out|refine below_set ?_ GE187.out)|exact HB.out)⟩
      (try clear BK176)
      (try clear BK181)
      (try clear BK184)
      (try clear BK187)
      (try clear HB)
      generalize ((w77.setCell ⟨gb187,0,none⟩ (.int .i64 t185)).setCell ⟨gb187,1,none⟩ (.string t186))=w82 at n0_ n1_ n2_ n3_ n4_ ⊢
      have BK176:=n0_
      have BK181:=n1_
      have BK184:=n2_
      have BK187:=n3_
      have HB:=n4_
      clear n0_ n1_ n2_ n3_ n4_
      have n0_:=Aside0.mk (blk_drew BK176.out)
      have n1_:=Aside0.mk (blk_drew BK181.out)
      have n2_:=Aside0.mk (blk_drew BK184.out)
      have n3_:=Aside0.mk (blk_drew BK187.out)
      have n4_:=Aside0.mk (below_drew1 HB.out)
      clear BK176
      clear BK181
      clear BK184
      clear BK187
      clear HB
      have BK176:=n0_
      have BK181:=n1_
      have BK184:=n2_
      have BK187:=n3_
      have HB:=n4_
      clear n0_ n1_ n2_ n3_ n4_
      refine start_ (n:=9) (S:=fun w'=>w'.cell? ⟨gb181,0,none⟩=some (.int .i64 t179)∧w'.cell? ⟨gb181,1,none⟩=some (.string t180)∧w'.cell? ⟨gb184,0,none⟩=some (.int .i64 t182)∧w'.cell? ⟨gb184,1,none⟩=some (.string t183)∧w'.cell? ⟨gb187,0,none⟩=some (.int .i64 t185)∧w'.cell? ⟨gb187,1,none⟩=some (.string t186)) (ds:=[]) #[false,false,false,false,false,false,false,false,false] (by kernel_rfl) rfl rfl ⟨(blk_cell BK181.out 0).trans rfl,(blk_cell BK181.out 1).trans rfl,(blk_cell BK184.out 0).trans rfl,(blk_cell BK184.out 1).trans rfl,(blk_cell BK187.out 0).trans rfl,(blk_cell BK187.out 1).trans rfl⟩ (fun hHeld=>?_);refine with_tabW thresherlaw03_ValueSums.tab6 thresherlaw03_ValueSums.bits6 (fun HT_ HW_=>?_)
      generalize w82.drew=w83 at BK176 BK181 BK184 BK187 HB hHeld ⊢
      refine pure_ (i:=0) (N:=some 27) (v:=?_) (a':=?_) #[true,false,false,false,false,false,false,false,false] rfl rfl (any_of HT_.out (by kernel_rfl)) (fun _ _ _ h=>h) (Or.inl ⟨by rfl,?_⟩) ?_ ?_
      rotate_left;(intro w';go_simp;with_reducible rfl);rotate_left;(simp only [Act.put,List.setIfInBounds_toArray,List.set_cons_zero,List.set_cons_succ,i64_w,i32_w];rfl)
      refine pure_ (i:=1) (N:=some 28) (v:=?_) (a':=?_) #[true,true,false,false,false,false,false,false,false] rfl rfl (any_of HT_.out (by kernel_rfl)) (fun _ _ _ h=>h) (Or.inl ⟨by rfl,?_⟩) ?_ ?_
      rotate_left;(intro w';go_simp;with_reducible rfl);rotate_left;(simp only [Act.put,List.setIfInBounds_toArray,List.set_cons_zero,List.set_cons_succ,i64_w,i32_w];rfl)
      refine take_ (i:=2) (N:=some 29) (v:=?_) (a':=?_) #[true,true,true,false,false,false,false,false,false] rfl rfl (take_ofW HT_.out HW_.out (by kernel_rfl)) (fun _ _ _ h=>h) (Or.inl ⟨by rfl,?_⟩) hHeld ?_ ?_
      rotate_left;(rintro w' ⟨s0,s1,s2,s3,s4,s5⟩;go_simp;with_reducible rfl);rotate_left;(simp only [Act.put,List.setIfInBounds_toArray,List.set_cons_zero,List.set_cons_succ,i64_w,i32_w];rfl)
      refine take_ (i:=3) (N:=some 30) (v:=?_) (a':=?_) #[true,true,true,true,false,false,false,false,false] rfl rfl (take_ofW HT_.out HW_.out (by kernel_rfl)) (fun _ _ _ h=>h) (Or.inl ⟨by rfl,?_⟩) hHeld ?_ ?_
      rotate_left;(rintro w' ⟨s0,s1,s2,s3,s4,s5⟩;go_simp;with_reducible rfl);rotate_left;(simp only [Act.put,List.setIfInBounds_toArray,List.set_cons_zero,List.set_cons_succ,i64_w,i32_w];rfl)
      refine take_ (i:=5) (N:=some 32) (v:=?_) (a':=?_) #[true,true,true,true,false,true,false,false,false] rfl rfl (take_ofW HT_.out HW_.out (by kernel_rfl)) (fun _ _ _ h=>h) (Or.inl ⟨by rfl,?_⟩) hHeld ?_ ?_
      rotate_left;(rintro w' ⟨s0,s1,s2,s3,s4,s5⟩;go_simp;with_reducible rfl);rotate_left;(simp only [Act.put,List.setIfInBounds_toArray,List.set_cons_zero,List.set_cons_succ,i64_w,i32_w];rfl)
      refine join_ (σ:=Nat) 1 #[true,true,true,true,true,true,true,true,false] (fun s_=>[(31,.agg #[.int .i64 t188,.string t189]),(33,.agg #[.int .i64 t190,.string t191]),(10,.pointer (some ⟨s_,0,none⟩))]) (fun s_ w'=>(w'.cell? ⟨gb181,0,none⟩=some (.int .i64 t179)∧w'.cell? ⟨gb181,1,none⟩=some (.string t180)∧w'.cell? ⟨gb184,0,none⟩=some (.int .i64 t182)∧w'.cell? ⟨gb184,1,none⟩=some (.string t183)∧w'.cell? ⟨gb187,0,none⟩=some (.int .i64 t185)∧w'.cell? ⟨gb187,1,none⟩=some (.string t186))∧(w'.heap[gb176]?=some (.cells #[.int .i64 a1_0,.string a1_1,.int .i64 a1_2,.string a1_3,.int .i64 a1_4,.string a1_5] 24 (0,0)))∧(w'.heap[gb181]?=some (.cells #[.int .i64 t179,.string t180] 23 (0,0)))∧(w'.heap[gb184]?=some (.cells #[.int .i64 t182,.string t183] 23 (0,0)))∧(w'.heap[gb187]?=some (.cells #[.int .i64 t185,.string t186] 23 (0,0)))∧(w'.heap[s_]?=some (.cells #[.int .i64 0,.string (⟨#[]⟩ : ByteArray)] 23 (0,0)))∧(w.heap.size≤s_)∧(w.heap.size≤s_)∧(gb176≠s_)∧(s_≠gb176)∧(gb181≠s_)∧(s_≠gb181)∧(gb184≠s_)∧(s_≠gb184)∧(gb187≠s_)∧(s_≠gb187)∧(Below w.heap.size w w')) ?_ ?_
      rotate_left
      ·intro hCont
       refine two_ (i:=4) (j:=7) (Ni:=some 31) (Nj:=some 10) #[true,true,true,true,true,true,false,false,false] #[true,true,true,true,false,true,false,true,false] rfl rfl rfl rfl (two_of HT_.out (by kernel_rfl)) (by decide) (by decide) (fun K hK=>?_) (fun K hK=>?_)
       ·skip
        refine goes_ Tryd.func14 (by kernel_rfl) rfl #[.int .i64 t178,.agg #[.int .i64 t179,.string t180],.agg #[.int .i64 t182,.string t183]] (by rfl) rfl rfl (by (try simp only [List.map_toArray,List.map_cons,List.map_nil]);first|done|rfl|(simp only [List.length_drop,List.length_take];rfl)) ?_
        with_reducible refine (value_Add.calls k t178 t179 t180 t182 t183 t188 t189 _ A8.out).mono ?_
        rintro e w84 ⟨rfl,hb⟩
        refine ⟨_,rfl,?_⟩
        have n0_:=Aside0.mk (blk_below (blk_up BK176.out) hb)
        have n1_:=Aside0.mk (blk_below (blk_up BK181.out) hb)
        have n2_:=Aside0.mk (blk_below (blk_up BK184.out) hb)
        have n3_:=Aside0.mk (blk_below (blk_up BK187.out) hb)
        have n4_:=Aside0.mk (below_step (below_go HB.out) hb)
        clear BK176
        clear BK181
        clear BK184
        clear BK187
        clear HB
        have BK176:=n0_
        have BK181:=n1_
        have BK184:=n2_
        have BK187:=n3_
        have HB:=n4_
        clear n0_ n1_ n2_ n3_ n4_
        (try clear hb)
        (try clear hb2)
        (try clear hk)
        (try clear hi)
        refine hK.out _ _ ⟨(blk_cell BK181.out 0).trans rfl,(blk_cell BK181.out 1).trans rfl,(blk_cell BK184.out 0).trans rfl,(blk_cell BK184.out 1).trans rfl,(blk_cell BK187.out 0).trans rfl,(blk_cell BK187.out 1).trans rfl⟩ (fun hHeld=>?_)
        clear hK K
        refine norm_ (a':=?_) ?_ ?_
        rotate_left
        ·show Act.put _ (some 31) _=_
         simp only [Act.put,List.setIfInBounds_toArray,List.set_cons_zero,List.set_cons_succ,i64_w,i32_w]
         rfl
        refine two_ (i:=6) (j:=7) (Ni:=some 33) (Nj:=some 10) #[true,true,true,true,true,true,true,false,false] #[true,true,true,true,true,true,false,true,false] rfl rfl rfl rfl (two_of HT_.out (by kernel_rfl)) (by decide) (by decide) (fun K hK=>?_) (fun K hK=>?_)
        ·skip
         refine goes_ Tryd.func14 (by kernel_rfl) rfl #[.int .i64 t178,.agg #[.int .i64 t188,.string t189],.agg #[.int .i64 t185,.string t186]] (by rfl) rfl rfl (by (try simp only [List.map_toArray,List.map_cons,List.map_nil]);first|done|rfl|(simp only [List.length_drop,List.length_take];rfl)) ?_
         with_reducible refine (value_Add.calls k t178 t188 t189 t185 t186 t190 t191 _ A9.out).mono ?_
         rintro e w85 ⟨rfl,hb⟩
         refine ⟨_,rfl,?_⟩
         have n0_:=Aside0.mk (blk_below (blk_up BK176.out) hb)
         have n1_:=Aside0.mk (blk_below (blk_up BK181.out) hb)
         have n2_:=Aside0.mk (blk_below (blk_up BK184.out) hb)
         have n3_:=Aside0.mk (blk_below (blk_up BK187.out) hb)
         have n4_:=Aside0.mk (below_step (below_go HB.out) hb)
         clear BK176
         clear BK181
         clear BK184
         clear BK187
         clear HB
         have BK176:=n0_
         have BK181:=n1_
         have BK184:=n2_
         have BK187:=n3_
         have HB:=n4_
         clear n0_ n1_ n2_ n3_ n4_
         (try clear hb)
         (try clear hb2)
         (try clear hk)
         (try clear hi)
         refine hK.out _ _ ⟨(blk_cell BK181.out 0).trans rfl,(blk_cell BK181.out 1).trans rfl,(blk_cell BK184.out 0).trans rfl,(blk_cell BK184.out 1).trans rfl,(blk_cell BK187.out 0).trans rfl,(blk_cell BK187.out 1).trans rfl⟩ (fun hHeld=>?_)
         clear hK K
         refine norm_ (a':=?_) ?_ ?_
         rotate_left
         ·show Act.put _ (some 33) _=_
          simp only [Act.put,List.setIfInBounds_toArray,List.set_cons_zero,List.set_cons_succ,i64_w,i32_w]
          rfl
         refine one_ (i:=7) (N:=some 10) #[true,true,true,true,true,true,true,true,false] rfl rfl (one_of HT_.out (by kernel_rfl)) (by decide) (fun K hK=>?_)
         refine box_step ?hg (N:=10) ?hd (cs:=#[.int .i64 0,.string (⟨#[]⟩ : ByteArray)]) (t:=23) ?hr ?_;(case hd=>rfl);(case hg=>rfl);(case hr=>first|(go_simp;done)|(go_simp;rfl))
         intro gb192 hg w86 hbox hb
         have n0_:=Aside0.mk (blk_below (blk_up BK176.out) hb)
         have n1_:=Aside0.mk (blk_below (blk_up BK181.out) hb)
         have n2_:=Aside0.mk (blk_below (blk_up BK184.out) hb)
         have n3_:=Aside0.mk (blk_below (blk_up BK187.out) hb)
         have n4_:=Aside0.mk (below_step (below_go HB.out) hb)
         have n5_:=Aside0.mk (hbox)
         have n6_:=Aside0.mk ((by rw [hg];exact (below_size (below_go HB.out)) : w.heap.size≤gb192))
         have n7_:=Aside0.mk ((by rw [hg];exact (below_size (below_go HB.out)) : w.heap.size≤gb192))
         have n8_:=Aside0.mk ((by rw [hg];exact Nat.ne_of_lt (blk_lt (blk_up BK176.out)) : gb176≠gb192))
         have n9_:=Aside0.mk ((by rw [hg];exact Nat.ne_of_gt (blk_lt (blk_up BK176.out)) : gb192≠gb176))
         have n10_:=Aside0.mk ((by rw [hg];exact Nat.ne_of_lt (blk_lt (blk_up BK181.out)) : gb181≠gb192))
         have n11_:=Aside0.mk ((by rw [hg];exact Nat.ne_of_gt (blk_lt (blk_up BK181.out)) : gb192≠gb181))
         have n12_:=Aside0.mk ((by rw [hg];exact Nat.ne_of_lt (blk_lt (blk_up BK184.out)) : gb184≠gb192))
         have n13_:=Aside0.mk ((by rw [hg];exact Nat.ne_of_gt (blk_lt (blk_up BK184.out)) : gb192≠gb184))
         have n14_:=Aside0.mk ((by rw [hg];exact Nat.ne_of_lt (blk_lt (blk_up BK187.out)) : gb187≠gb192))
         have n15_:=Aside0.mk ((by rw [hg];exact Nat.ne_of_gt (blk_lt (blk_up BK187.out)) : gb192≠gb187))
         clear BK176
         clear BK181
         clear BK184
         clear BK187
         clear HB
         have BK176:=n0_
         have BK181:=n1_
         have BK184:=n2_
         have BK187:=n3_
         have HB:=n4_
         have BK192:=n5_
         have GW192:=n6_
         have GE192:=n7_
         have NB176_192:=n8_
         have NB192_176:=n9_
         have NB181_192:=n10_
         have NB192_181:=n11_
         have NB184_192:=n12_
         have NB192_184:=n13_
         have NB187_192:=n14_
         have NB192_187:=n15_
         clear n0_ n1_ n2_ n3_ n4_ n5_ n6_ n7_ n8_ n9_ n10_ n11_ n12_ n13_ n14_ n15_
         clear hb hbox hg
         refine hK.out _ _ ⟨(blk_cell BK181.out 0).trans rfl,(blk_cell BK181.out 1).trans rfl,(blk_cell BK184.out 0).trans rfl,(blk_cell BK184.out 1).trans rfl,(blk_cell BK187.out 0).trans rfl,(blk_cell BK187.out 1).trans rfl⟩ (fun hHeld=>?_)
         clear hK K
         refine norm_ (a':=?_) ?_ ?_
         rotate_left
         ·show Act.put _ (some 10) _=_
          simp only [Act.put,List.setIfInBounds_toArray,List.set_cons_zero,List.set_cons_succ,i64_w,i32_w]
          rfl
         exact norm_ (by simp only [putAll,Act.put,List.setIfInBounds_toArray,List.set_cons_zero,List.set_cons_succ]) (hCont (gb192) _ ⟨hHeld,(blk_up BK176.out),(blk_up BK181.out),(blk_up BK184.out),(blk_up BK187.out),(blk_up BK192.out),GW192.out,GE192.out,NB176_192.out,NB192_176.out,NB181_192.out,NB192_181.out,NB184_192.out,NB192_184.out,NB187_192.out,NB192_187.out,(below_go HB.out)⟩)
        ·skip
         refine box_step ?hg (N:=10) ?hd (cs:=#[.int .i64 0,.string (⟨#[]⟩ : ByteArray)]) (t:=23) ?hr ?_;(case hd=>rfl);(case hg=>rfl);(case hr=>first|(go_simp;done)|(go_simp;rfl))
         intro gb192 hg w85 hbox hb
         have n0_:=Aside0.mk (blk_below (blk_up BK176.out) hb)
         have n1_:=Aside0.mk (blk_below (blk_up BK181.out) hb)
         have n2_:=Aside0.mk (blk_below (blk_up BK184.out) hb)
         have n3_:=Aside0.mk (blk_below (blk_up BK187.out) hb)
         have n4_:=Aside0.mk (below_step (below_go HB.out) hb)
         have n5_:=Aside0.mk (hbox)
         have n6_:=Aside0.mk ((by rw [hg];exact (below_size (below_go HB.out)) : w.heap.size≤gb192))
         have n7_:=Aside0.mk ((by rw [hg];exact (below_size (below_go HB.out)) : w.heap.size≤gb192))
         have n8_:=Aside0.mk ((by rw [hg];exact Nat.ne_of_lt (blk_lt (blk_up BK176.out)) : gb176≠gb192))
         have n9_:=Aside0.mk ((by rw [hg];exact Nat.ne_of_gt (blk_lt (blk_up BK176.out)) : gb192≠gb176))
         have n10_:=Aside0.mk ((by rw [hg];exact Nat.ne_of_lt (blk_lt (blk_up BK181.out)) : gb181≠gb192))
         have n11_:=Aside0.mk ((by rw [hg];exact Nat.ne_of_gt (blk_lt (blk_up BK181.out)) : gb192≠gb181))
         have n12_:=Aside0.mk ((by rw [hg];exact Nat.ne_of_lt (blk_lt (blk_up BK184.out)) : gb184≠gb192))
         have n13_:=Aside0.mk ((by rw [hg];exact Nat.ne_of_gt (blk_lt (blk_up BK184.out)) : gb192≠gb184))
         have n14_:=Aside0.mk ((by rw [hg];exact Nat.ne_of_lt (blk_lt (blk_up BK187.out)) : gb187≠gb192))
         have n15_:=Aside0.mk ((by rw [hg];exact Nat.ne_of_gt (blk_lt (blk_up BK187.out)) : gb192≠gb187))
         clear BK176
         clear BK181
         clear BK184
         clear BK187
         clear HB
         have BK176:=n0_
         have BK181:=n1_
         have BK184:=n2_
         have BK187:=n3_
         have HB:=n4_
         have BK192:=n5_
         have GW192:=n6_
         have GE192:=n7_
         have NB176_192:=n8_
         have NB192_176:=n9_
         have NB181_192:=n10_
         have NB192_181:=n11_
         have NB184_192:=n12_
         have NB192_184:=n13_
         have NB187_192:=n14_
         have NB192_187:=n15_
         clear n0_ n1_ n2_ n3_ n4_ n5_ n6_ n7_ n8_ n9_ n10_ n11_ n12_ n13_ n14_ n15_
         clear hb hbox hg
         refine hK.out _ _ ⟨(blk_cell BK181.out 0).trans rfl,(blk_cell BK181.out 1).trans rfl,(blk_cell BK184.out 0).trans rfl,(blk_cell BK184.out 1).trans rfl,(blk_cell BK187.out 0).trans rfl,(blk_cell BK187.out 1).trans rfl⟩ (fun hHeld=>?_)
         clear hK K
         refine norm_ (a':=?_) ?_ ?_
         rotate_left
         ·show Act.put _ (some 10) _=_
          simp only [Act.put,List.setIfInBounds_toArray,List.set_cons_zero,List.set_cons_succ,i64_w,i32_w]
          rfl
         refine one_ (i:=6) (N:=some 33) #[true,true,true,true,true,true,true,true,false] rfl rfl (one_of HT_.out (by kernel_rfl)) (by decide) (fun K hK=>?_)
         refine goes_ Tryd.func14 (by kernel_rfl) rfl #[.int .i64 t178,.agg #[.int .i64 t188,.string t189],.agg #[.int .i64 t185,.string t186]] (by rfl) rfl rfl (by (try simp only [List.map_toArray,List.map_cons,List.map_nil]);first|done|rfl|(simp only [List.length_drop,List.length_take];rfl)) ?_
         with_reducible refine (value_Add.calls k t178 t188 t189 t185 t186 t190 t191 _ A9.out).mono ?_
         rintro e w86 ⟨rfl,hb⟩
         refine ⟨_,rfl,?_⟩
         have n0_:=Aside0.mk (blk_below (blk_up BK176.out) hb)
         have n1_:=Aside0.mk (blk_below (blk_up BK181.out) hb)
         have n2_:=Aside0.mk (blk_below (blk_up BK184.out) hb)
         have n3_:=Aside0.mk (blk_below (blk_up BK187.out) hb)
         have n4_:=Aside0.mk (blk_below (g:=gb192) (o:=.cells #[.int .i64 0,.string (⟨#[]⟩ : ByteArray)] 23 (0,0)) (blk_up BK192.out) hb)
         have n5_:=Aside0.mk (below_step (below_go HB.out) hb)
         clear BK176
         clear BK181
         clear BK184
         clear BK187
         clear BK192
         clear HB
         have BK176:=n0_
         have BK181:=n1_
         have BK184:=n2_
         have BK187:=n3_
         have BK192:=n4_
         have HB:=n5_
         clear n0_ n1_ n2_ n3_ n4_ n5_
         (try clear hb)
         (try clear hb2)
         (try clear hk)
         (try clear hi)
         refine hK.out _ _ ⟨(blk_cell BK181.out 0).trans rfl,(blk_cell BK181.out 1).trans rfl,(blk_cell BK184.out 0).trans rfl,(blk_cell BK184.out 1).trans rfl,(blk_cell BK187.out 0).trans rfl,(blk_cell BK187.out 1).trans rfl⟩ (fun hHeld=>?_)
         clear hK K
         refine norm_ (a':=?_) ?_ ?_
         rotate_left
         ·show Act.put _ (some 33) _=_
          simp only [Act.put,List.setIfInBounds_toArray,List.set_cons_zero,List.set_cons_succ,i64_w,i32_w]
          rfl
         exact norm_ (by simp only [putAll,Act.put,List.setIfInBounds_toArray,List.set_cons_zero,List.set_cons_succ]) (hCont (gb192) _ ⟨hHeld,(blk_up BK176.out),(blk_up BK181.out),(blk_up BK184.out),(blk_up BK187.out),(blk_up BK192.out),GW192.out,GE192.out,NB176_192.out,NB192_176.out,NB181_192.out,NB192_181.out,NB184_192.out,NB192_184.out,NB187_192.out,NB192_187.out,(below_go HB.out)⟩)
       ·skip
        refine box_step ?hg (N:=10) ?hd (cs:=#[.int .i64 0,.string (⟨#[]⟩ : ByteArray)]) (t:=23) ?hr ?_;(case hd=>rfl);(case hg=>rfl);(case hr=>first|(go_simp;done)|(go_simp;rfl))
        intro gb192 hg w84 hbox hb
        have n0_:=Aside0.mk (blk_below (blk_up BK176.out) hb)
        have n1_:=Aside0.mk (blk_below (blk_up BK181.out) hb)
        have n2_:=Aside0.mk (blk_below (blk_up BK184.out) hb)
        have n3_:=Aside0.mk (blk_below (blk_up BK187.out) hb)
        have n4_:=Aside0.mk (below_step (below_go HB.out) hb)
        have n5_:=Aside0.mk (hbox)
        have n6_:=Aside0.mk ((by rw [hg];exact (below_size (below_go HB.out)) : w.heap.size≤gb192))
        have n7_:=Aside0.mk ((by rw [hg];exact (below_size (below_go HB.out)) : w.heap.size≤gb192))
        have n8_:=Aside0.mk ((by rw [hg];exact Nat.ne_of_lt (blk_lt (blk_up BK176.out)) : gb176≠gb192))
        have n9_:=Aside0.mk ((by rw [hg];exact Nat.ne_of_gt (blk_lt (blk_up BK176.out)) : gb192≠gb176))
        have n10_:=Aside0.mk ((by rw [hg];exact Nat.ne_of_lt (blk_lt (blk_up BK181.out)) : gb181≠gb192))
        have n11_:=Aside0.mk ((by rw [hg];exact Nat.ne_of_gt (blk_lt (blk_up BK181.out)) : gb192≠gb181))
        have n12_:=Aside0.mk ((by rw [hg];exact Nat.ne_of_lt (blk_lt (blk_up BK184.out)) : gb184≠gb192))
        have n13_:=Aside0.mk ((by rw [hg];exact Nat.ne_of_gt (blk_lt (blk_up BK184.out)) : gb192≠gb184))
        have n14_:=Aside0.mk ((by rw [hg];exact Nat.ne_of_lt (blk_lt (blk_up BK187.out)) : gb187≠gb192))
        have n15_:=Aside0.mk ((by rw [hg];exact Nat.ne_of_gt (blk_lt (blk_up BK187.out)) : gb192≠gb187))
        clear BK176
        clear BK181
        clear BK184
        clear BK187
        clear HB
        have BK176:=n0_
        have BK181:=n1_
        have BK184:=n2_
        have BK187:=n3_
        have HB:=n4_
        have BK192:=n5_
        have GW192:=n6_
        have GE192:=n7_
        have NB176_192:=n8_
        have NB192_176:=n9_
        have NB181_192:=n10_
        have NB192_181:=n11_
        have NB184_192:=n12_
        have NB192_184:=n13_
        have NB187_192:=n14_
        have NB192_187:=n15_
        clear n0_ n1_ n2_ n3_ n4_ n5_ n6_ n7_ n8_ n9_ n10_ n11_ n12_ n13_ n14_ n15_
        clear hb hbox hg
        refine hK.out _ _ ⟨(blk_cell BK181.out 0).trans rfl,(blk_cell BK181.out 1).trans rfl,(blk_cell BK184.out 0).trans rfl,(blk_cell BK184.out 1).trans rfl,(blk_cell BK187.out 0).trans rfl,(blk_cell BK187.out 1).trans rfl⟩ (fun hHeld=>?_)
        clear hK K
        refine norm_ (a':=?_) ?_ ?_
        rotate_left
        ·show Act.put _ (some 10) _=_
         simp only [Act.put,List.setIfInBounds_toArray,List.set_cons_zero,List.set_cons_succ,i64_w,i32_w]
         rfl
        refine one_ (i:=4) (N:=some 31) #[true,true,true,true,true,true,false,true,false] rfl rfl (one_of HT_.out (by kernel_rfl)) (by decide) (fun K hK=>?_)
        refine goes_ Tryd.func14 (by kernel_rfl) rfl #[.int .i64 t178,.agg #[.int .i64 t179,.string t180],.agg #[.int .i64 t182,.string t183]] (by rfl) rfl rfl (by (try simp only [List.map_toArray,List.map_cons,List.map_nil]);first|done|rfl|(simp only [List.length_drop,List.length_take];rfl)) ?_
        with_reducible refine (value_Add.calls k t178 t179 t180 t182 t183 t188 t189 _ A8.out).mono ?_
        rintro e w85 ⟨rfl,hb⟩
        refine ⟨_,rfl,?_⟩
        have n0_:=Aside0.mk (blk_below (blk_up BK176.out) hb)
        have n1_:=Aside0.mk (blk_below (blk_up BK181.out) hb)
        have n2_:=Aside0.mk (blk_below (blk_up BK184.out) hb)
        have n3_:=Aside0.mk (blk_below (blk_up BK187.out) hb)
        have n4_:=Aside0.mk (blk_below (g:=gb192) (o:=.cells #[.int .i64 0,.string (⟨#[]⟩ : ByteArray)] 23 (0,0)) (blk_up BK192.out) hb)
        have n5_:=Aside0.mk (below_step (below_go HB.out) hb)
        clear BK176
        clear BK181
        clear BK184
        clear BK187
        clear BK192
        clear HB
        have BK176:=n0_
        have BK181:=n1_
        have BK184:=n2_
        have BK187:=n3_
        have BK192:=n4_
        have HB:=n5_
        clear n0_ n1_ n2_ n3_ n4_ n5_
        (try clear hb)
        (try clear hb2)
        (try clear hk)
        (try clear hi)
        refine hK.out _ _ ⟨(blk_cell BK181.out 0).trans rfl,(blk_cell BK181.out 1).trans rfl,(blk_cell BK184.out 0).trans rfl,(blk_cell BK184.out 1).trans rfl,(blk_cell BK187.out 0).trans rfl,(blk_cell BK187.out 1).trans rfl⟩ (fun hHeld=>?_)
        clear hK K
        refine norm_ (a':=?_) ?_ ?_
        rotate_left
        ·show Act.put _ (some 31) _=_
         simp only [Act.put,List.setIfInBounds_toArray,List.set_cons_zero,List.set_cons_succ,i64_w,i32_w]
         rfl
        refine one_ (i:=6) (N:=some 33) #[true,true,true,true,true,true,true,true,false] rfl rfl (one_of HT_.out (by kernel_rfl)) (by decide) (fun K hK=>?_)
        refine goes_ Tryd.func14 (by kernel_rfl) rfl #[.int .i64 t178,.agg #[.int .i64 t188,.string t189],.agg #[.int .i64 t185,.string t186]] (by rfl) rfl rfl (by (try simp only [List.map_toArray,List.map_cons,List.map_nil]);first|done|rfl|(simp only [List.length_drop,List.length_take];rfl)) ?_
        with_reducible refine (value_Add.calls k t178 t188 t189 t185 t186 t190 t191 _ A9.out).mono ?_
        rintro e w86 ⟨rfl,hb⟩
        refine ⟨_,rfl,?_⟩
        have n0_:=Aside0.mk (blk_below (blk_up BK176.out) hb)
        have n1_:=Aside0.mk (blk_below (blk_up BK181.out) hb)
        have n2_:=Aside0.mk (blk_below (blk_up BK184.out) hb)
        have n3_:=Aside0.mk (blk_below (blk_up BK187.out) hb)
        have n4_:=Aside0.mk (blk_below (g:=gb192) (o:=.cells #[.int .i64 0,.string (⟨#[]⟩ : ByteArray)] 23 (0,0)) (blk_up BK192.out) hb)
        have n5_:=Aside0.mk (below_step (below_go HB.out) hb)
        clear BK176
        clear BK181
        clear BK184
        clear BK187
        clear BK192
        clear HB
        have BK176:=n0_
        have BK181:=n1_
        have BK184:=n2_
        have BK187:=n3_
        have BK192:=n4_
        have HB:=n5_
        clear n0_ n1_ n2_ n3_ n4_ n5_
        (try clear hb)
        (try clear hb2)
        (try clear hk)
        (try clear hi)
        refine hK.out _ _ ⟨(blk_cell BK181.out 0).trans rfl,(blk_cell BK181.out 1).trans rfl,(blk_cell BK184.out 0).trans rfl,(blk_cell BK184.out 1).trans rfl,(blk_cell BK187.out 0).trans rfl,(blk_cell BK187.out 1).trans rfl⟩ (fun hHeld=>?_)
        clear hK K
        refine norm_ (a':=?_) ?_ ?_
        rotate_left
        ·show Act.put _ (some 33) _=_
         simp only [Act.put,List.setIfInBounds_toArray,List.set_cons_zero,List.set_cons_succ,i64_w,i32_w]
         rfl
        exact norm_ (by simp only [putAll,Act.put,List.setIfInBounds_toArray,List.set_cons_zero,List.set_cons_succ]) (hCont (gb192) _ ⟨hHeld,(blk_up BK176.out),(blk_up BK181.out),(blk_up BK184.out),(blk_up BK187.out),(blk_up BK192.out),GW192.out,GE192.out,NB176_192.out,NB192_176.out,NB181_192.out,NB192_181.out,NB184_192.out,NB192_184.out,NB187_192.out,NB192_187.out,(below_go HB.out)⟩)
      rintro gb192 w87 ⟨hS_,h0_,h1_,h2_,h3_,h4_,h5_,h6_,h7_,h8_,h9_,h10_,h11_,h12_,h13_,h14_,h15_⟩
      have n0_ : Aside0 (w87.heap[gb176]?=some (.cells #[.int .i64 a1_0,.string a1_1,.int .i64 a1_2,.string a1_3,.int .i64 a1_4,.string a1_5] 24 (0,0))):=⟨h0_⟩
      have n1_ : Aside0 (w87.heap[gb181]?=some (.cells #[.int .i64 t179,.string t180] 23 (0,0))):=⟨h1_⟩
      have n2_ : Aside0 (w87.heap[gb184]?=some (.cells #[.int .i64 t182,.string t183] 23 (0,0))):=⟨h2_⟩
      have n3_ : Aside0 (w87.heap[gb187]?=some (.cells #[.int .i64 t185,.string t186] 23 (0,0))):=⟨h3_⟩
      have n4_ : Aside0 (w87.heap[gb192]?=some (.cells #[.int .i64 0,.string (⟨#[]⟩ : ByteArray)] 23 (0,0))):=⟨h4_⟩
      have n5_ : Aside0 (w.heap.size≤gb192):=⟨h5_⟩
      have n6_ : Aside0 (w.heap.size≤gb192):=⟨h6_⟩
      have n7_ : Aside0 (gb176≠gb192):=⟨h7_⟩
      have n8_ : Aside0 (gb192≠gb176):=⟨h8_⟩
      have n9_ : Aside0 (gb181≠gb192):=⟨h9_⟩
      have n10_ : Aside0 (gb192≠gb181):=⟨h10_⟩
      have n11_ : Aside0 (gb184≠gb192):=⟨h11_⟩
      have n12_ : Aside0 (gb192≠gb184):=⟨h12_⟩
      have n13_ : Aside0 (gb187≠gb192):=⟨h13_⟩
      have n14_ : Aside0 (gb192≠gb187):=⟨h14_⟩
      have n15_ : Aside0 (Below w.heap.size w w87):=⟨h15_⟩
      clear BK176
      clear BK181
      clear BK184
      clear BK187
      clear HB
      clear h0_ h1_ h2_ h3_ h4_ h5_ h6_ h7_ h8_ h9_ h10_ h11_ h12_ h13_ h14_ h15_
      have BK176:=n0_
      have BK181:=n1_
      have BK184:=n2_
      have BK187:=n3_
      have BK192:=n4_
      have GW192:=n5_
      have GE192:=n6_
      have NB176_192:=n7_
      have NB192_176:=n8_
      have NB181_192:=n9_
      have NB192_181:=n10_
      have NB184_192:=n11_
      have NB192_184:=n12_
      have NB187_192:=n13_
      have NB192_187:=n14_
      have HB:=n15_
      clear n0_ n1_ n2_ n3_ n4_ n5_ n6_ n7_ n8_ n9_ n10_ n11_ n12_ n13_ n14_ n15_
      have hHeld : w87.cell? ⟨gb181,0,none⟩=some (.int .i64 t179)∧w87.cell? ⟨gb181,1,none⟩=some (.string t180)∧w87.cell? ⟨gb184,0,none⟩=some (.int .i64 t182)∧w87.cell? ⟨gb184,1,none⟩=some (.string t183)∧w87.cell? ⟨gb187,0,none⟩=some (.int .i64 t185)∧w87.cell? ⟨gb187,1,none⟩=some (.string t186):=hS_
      refine norm_ (a':=?_) ?_ ?_
      rotate_left
      ·simp only [putAll,Act.put,List.setIfInBounds_toArray,List.set_cons_zero,List.set_cons_succ]
       rfl
      refine one_ (i:=8) (N:=none) #[true,true,true,true,true,true,true,true,true] rfl rfl (one_of HT_.out (by kernel_rfl)) (by decide) (fun K hK=>?_)
      have hs88 : w87.cell? ⟨gb192,0,none⟩=some (.int .i64 0):=(blk_cell BK192.out 0).trans rfl
      have hfs88:=blk_frozen BK192.out 0
      have hns88_0:=NB176_192.out
      have hns88_1:=NB181_192.out
      have hns88_2:=NB184_192.out
      have hns88_3:=NB187_192.out
      have hms88_0:=NB192_176.out
      have hms88_1:=NB192_181.out
      have hms88_2:=NB192_184.out
      have hms88_3:=NB192_187.out
      have hs89 : w87.cell? ⟨gb192,1,none⟩=some (.string (⟨#[]⟩ : ByteArray)):=(blk_cell BK192.out 1).trans rfl
      have hfs89:=blk_frozen BK192.out 1
      have hns89_0:=NB176_192.out
      have hns89_1:=NB181_192.out
      have hns89_2:=NB184_192.out
      have hns89_3:=NB187_192.out
      have hms89_0:=NB192_176.out
      have hms89_1:=NB192_181.out
      have hms89_2:=NB192_184.out
      have hms89_3:=NB192_187.out
      refine skip_ (w1:=?_) (by rfl) rfl ?_ ?_
      rotate_left
      ·go_simp
       rfl
      refine hK.out _ _ ⟨((cell_far (p:=⟨gb192,_,none⟩) NB181_192.out _).trans (((cell_far (p:=⟨gb192,_,none⟩) NB181_192.out _).trans (hHeld.1)))),((cell_far (p:=⟨gb192,_,none⟩) NB181_192.out _).trans (((cell_far (p:=⟨gb192,_,none⟩) NB181_192.out _).trans (hHeld.2.1)))),((cell_far (p:=⟨gb192,_,none⟩) NB184_192.out _).trans (((cell_far (p:=⟨gb192,_,none⟩) NB184_192.out _).trans (hHeld.2.2.1)))),((cell_far (p:=⟨gb192,_,none⟩) NB184_192.out _).trans (((cell_far (p:=⟨gb192,_,none⟩) NB184_192.out _).trans (hHeld.2.2.2.1)))),((cell_far (p:=⟨gb192,_,none⟩) NB187_192.out _).trans (((cell_far (p:=⟨gb192,_,none⟩) NB187_192.out _).trans (hHeld.2.2.2.2.1)))),((cell_far (p:=⟨gb192,_,none⟩) NB187_192.out _).trans (((cell_far (p:=⟨gb192,_,none⟩) NB187_192.out _).trans (hHeld.2.2.2.2.2))))⟩ (fun hHeld=>?_)
      clear hK K
      refine done_ (done_of HT_.out (by kernel_rfl)) ?_
      (try clear hHeld)
      try go_wp2
      have n0_ : Aside0 (((w87.setCell ⟨gb192,0,none⟩ (.int .i64 t190)).setCell ⟨gb192,1,none⟩ (.string t191)).heap[gb176]?=some (.cells #[.int .i64 a1_0,.string a1_1,.int .i64 a1_2,.string a1_3,.int .i64 a1_4,.string a1_5] 24 (0,0))):=⟨by (with_reducible repeat (first|refine blk_drewN ?_ _|refine blk_drew ?_|refine blk_alloc ?_ _));refine blk_far ?_ NB176_192.out _;(with_reducible repeat (first|refine blk_drewN ?_ _|refine blk_drew ?_|refine blk_alloc ?_ _));refine blk_far ?_ NB176_192.out _;(with_reducible repeat (first|refine blk_drewN ?_ _|refine blk_drew ?_|refine blk_alloc ?_ _));exact BK176.out⟩
      have n1_ : Aside0 (((w87.setCell ⟨gb192,0,none⟩ (.int .i64 t190)).setCell ⟨gb192,1,none⟩ (.string t191)).heap[gb181]?=some (.cells #[.int .i64 t179,.string t180] 23 (0,0))):=⟨by (with_reducible repeat (first|refine blk_drewN ?_ _|refine blk_drew ?_|refine blk_alloc ?_ _));refine blk_far ?_ NB181_192.out _;(with_reducible repeat (first|refine blk_drewN ?_ _|refine blk_drew ?_|refine blk_alloc ?_ _));refine blk_far ?_ NB181_192.out _;(with_reducible repeat (first|refine blk_drewN ?_ _|refine blk_drew ?_|refine blk_alloc ?_ _));exact BK181.out⟩
      have n2_ : Aside0 (((w87.setCell ⟨gb192,0,none⟩ (.int .i64 t190)).setCell ⟨gb192,1,none⟩ (.string t191)).heap[gb184]?=some (.cells #[.int .i64 t182,.string t183] 23 (0,0))):=⟨by (with_reducible repeat (first|refine blk_drewN ?_ _|refine blk_drew ?_|refine blk_alloc ?_ _));refine blk_far ?_ NB184_192.out _;(with_reducible repeat (first|refine blk_drewN ?_ _|refine blk_drew ?_|refine blk_alloc ?_ _));refine blk_far ?_ NB184_192.out _;(with_reducible repeat (first|refine blk_drewN ?_ _|refine blk_drew ?_|refine blk_alloc ?_ _));exact BK184.out⟩
      have n3_ : Aside0 (((w87.setCell ⟨gb192,0,none⟩ (.int .i64 t190)).setCell ⟨gb192,1,none⟩ (.string t191)).heap[gb187]?=some (.cells #[.int .i64 t185,.string t186] 23 (0,0))):=⟨by (with_reducible repeat (first|refine blk_drewN ?_ _|refine blk_drew ?_|refine blk_alloc ?_ _));refine blk_far ?_ NB187_192.out _;(with_reducible repeat (first|refine blk_drewN ?_ _|refine blk_drew ?_|refine blk_alloc ?_ _));refine blk_far ?_ NB187_192.out _;(with_reducible repeat (first|refine blk_drewN ?_ _|refine blk_drew ?_|refine blk_alloc ?_ _));exact BK187.out⟩
      have n4_ : Aside0 (((w87.setCell ⟨gb192,0,none⟩ (.int .i64 t190)).setCell ⟨gb192,1,none⟩ (.string t191)).heap[gb192]?=some (.cells #[.int .i64 t190,.string t191] 23 (0,0))):=⟨by (with_reducible repeat (first|refine blk_drewN ?_ _|refine blk_drew ?_|refine blk_alloc ?_ _));refine blk_put (cs:=#[.int .i64 t190,.string (⟨#[]⟩ : ByteArray)]) ?_ 1 _ rfl;(with_reducible repeat (first|refine blk_drewN ?_ _|refine blk_drew ?_|refine blk_alloc ?_ _));refine blk_put (cs:=#[.int .i64 0,.string (⟨#[]⟩ : ByteArray)]) ?_ 0 _ rfl;(with_reducible repeat (first|refine blk_drewN ?_ _|refine blk_drew ?_|refine blk_alloc ?_ _));exact BK192.out⟩
      have n5_ : Aside0 (Below w.heap.size w ((w87.setCell ⟨gb192,0,none⟩ (.int .i64 t190)).setCell ⟨gb192,1,none⟩ (.string t191))):=⟨by repeat (first|(with_reducible first|exact HB.out|apply below_alloc|apply pw_below_drewN|apply below_drew1|refine below_set ?_ GE176.out|refine below_set ?_ GE181.out|refine below_set ?_ GE184.out|refine below_set ?_ GE187.out|refine below_set ?_ GE192.out)|exact HB.out)⟩
      (try clear BK176)
      (try clear BK181)
      (try clear BK184)
      (try clear BK187)
      (try clear BK192)
      (try clear HB)
      generalize ((w87.setCell ⟨gb192,0,none⟩ (.int .i64 t190)).setCell ⟨gb192,1,none⟩ (.string t191))=w90 at n0_ n1_ n2_ n3_ n4_ n5_ ⊢
      have BK176:=n0_
      have BK181:=n1_
      have BK184:=n2_
      have BK187:=n3_
      have BK192:=n4_
      have HB:=n5_
      clear n0_ n1_ n2_ n3_ n4_ n5_
      have n0_:=Aside0.mk (blk_drew BK176.out)
      have n1_:=Aside0.mk (blk_drew BK181.out)
      have n2_:=Aside0.mk (blk_drew BK184.out)
      have n3_:=Aside0.mk (blk_drew BK187.out)
      have n4_:=Aside0.mk (blk_drew BK192.out)
      have n5_:=Aside0.mk (below_drew1 HB.out)
      clear BK176
      clear BK181
      clear BK184
      clear BK187
      clear BK192
      clear HB
      have BK176:=n0_
      have BK181:=n1_
      have BK184:=n2_
      have BK187:=n3_
      have BK192:=n4_
      have HB:=n5_
      clear n0_ n1_ n2_ n3_ n4_ n5_
      refine start_ (n:=9) (S:=fun w'=>w'.cell? ⟨gb181,0,none⟩=some (.int .i64 t179)∧w'.cell? ⟨gb181,1,none⟩=some (.string t180)∧w'.cell? ⟨gb184,0,none⟩=some (.int .i64 t182)∧w'.cell? ⟨gb184,1,none⟩=some (.string t183)∧w'.cell? ⟨gb187,0,none⟩=some (.int .i64 t185)∧w'.cell? ⟨gb187,1,none⟩=some (.string t186)) (ds:=[]) #[false,false,false,false,false,false,false,false,false] (by kernel_rfl) rfl rfl ⟨(blk_cell BK181.out 0).trans rfl,(blk_cell BK181.out 1).trans rfl,(blk_cell BK184.out 0).trans rfl,(blk_cell BK184.out 1).trans rfl,(blk_cell BK187.out 0).trans rfl,(blk_cell BK187.out 1).trans rfl⟩ (fun hHeld=>?_);refine with_tabW thresherlaw03_ValueSums.tab7 thresherlaw03_ValueSums.bits7 (fun HT_ HW_=>?_)
      generalize w90.drew=w91 at BK176 BK181 BK184 BK187 BK192 HB hHeld ⊢
      refine pure_ (i:=0) (N:=some 34) (v:=?_) (a':=?_) #[true,false,false,false,false,false,false,false,false] rfl rfl (any_of HT_.out (by kernel_rfl)) (fun _ _ _ h=>h) (Or.inl ⟨by rfl,?_⟩) ?_ ?_
      rotate_left;(intro w';go_simp;with_reducible rfl);rotate_left;(simp only [Act.put,List.setIfInBounds_toArray,List.set_cons_zero,List.set_cons_succ,i64_w,i32_w];rfl)
      refine pure_ (i:=2) (N:=some 36) (v:=?_) (a':=?_) #[true,false,true,false,false,false,false,false,false] rfl rfl (any_of HT_.out (by kernel_rfl)) (fun _ _ _ h=>h) (Or.inl ⟨by rfl,?_⟩) ?_ ?_
      rotate_left;(intro w';go_simp;with_reducible rfl);rotate_left;(simp only [Act.put,List.setIfInBounds_toArray,List.set_cons_zero,List.set_cons_succ,i64_w,i32_w];rfl)
      refine take_ (i:=1) (N:=some 35) (v:=?_) (a':=?_) #[true,true,true,false,false,false,false,false,false] rfl rfl (take_ofW HT_.out HW_.out (by kernel_rfl)) (fun _ _ _ h=>h) (Or.inl ⟨by rfl,?_⟩) hHeld ?_ ?_
      rotate_left;(rintro w' ⟨s0,s1,s2,s3,s4,s5⟩;go_simp;with_reducible rfl);rotate_left;(simp only [Act.put,List.setIfInBounds_toArray,List.set_cons_zero,List.set_cons_succ,i64_w,i32_w];rfl)
      refine take_ (i:=3) (N:=some 37) (v:=?_) (a':=?_) #[true,true,true,true,false,false,false,false,false] rfl rfl (take_ofW HT_.out HW_.out (by kernel_rfl)) (fun _ _ _ h=>h) (Or.inl ⟨by rfl,?_⟩) hHeld ?_ ?_
      rotate_left;(rintro w' ⟨s0,s1,s2,s3,s4,s5⟩;go_simp;with_reducible rfl);rotate_left;(simp only [Act.put,List.setIfInBounds_toArray,List.set_cons_zero,List.set_cons_succ,i64_w,i32_w];rfl)
      refine take_ (i:=4) (N:=some 38) (v:=?_) (a':=?_) #[true,true,true,true,true,false,false,false,false] rfl rfl (take_ofW HT_.out HW_.out (by kernel_rfl)) (fun _ _ _ h=>h) (Or.inl ⟨by rfl,?_⟩) hHeld ?_ ?_
      rotate_left;(rintro w' ⟨s0,s1,s2,s3,s4,s5⟩;go_simp;with_reducible rfl);rotate_left;(simp only [Act.put,List.setIfInBounds_toArray,List.set_cons_zero,List.set_cons_succ,i64_w,i32_w];rfl)
      refine join_ (σ:=Nat) 1 #[true,true,true,true,true,true,true,true,false] (fun s_=>[(39,.agg #[.int .i64 t193,.string t194]),(40,.agg #[.int .i64 t195,.string t196]),(11,.pointer (some ⟨s_,0,none⟩))]) (fun s_ w'=>(w'.cell? ⟨gb181,0,none⟩=some (.int .i64 t179)∧w'.cell? ⟨gb181,1,none⟩=some (.string t180)∧w'.cell? ⟨gb184,0,none⟩=some (.int .i64 t182)∧w'.cell? ⟨gb184,1,none⟩=some (.string t183)∧w'.cell? ⟨gb187,0,none⟩=some (.int .i64 t185)∧w'.cell? ⟨gb187,1,none⟩=some (.string t186))∧(w'.heap[gb176]?=some (.cells #[.int .i64 a1_0,.string a1_1,.int .i64 a1_2,.string a1_3,.int .i64 a1_4,.string a1_5] 24 (0,0)))∧(w'.heap[gb181]?=some (.cells #[.int .i64 t179,.string t180] 23 (0,0)))∧(w'.heap[gb184]?=some (.cells #[.int .i64 t182,.string t183] 23 (0,0)))∧(w'.heap[gb187]?=some (.cells #[.int .i64 t185,.string t186] 23 (0,0)))∧(w'.heap[gb192]?=some (.cells #[.int .i64 t190,.string t191] 23 (0,0)))∧(w'.heap[s_]?=some (.cells #[.int .i64 0,.string (⟨#[]⟩ : ByteArray)] 23 (0,0)))∧(w.heap.size≤s_)∧(w.heap.size≤s_)∧(gb176≠s_)∧(s_≠gb176)∧(gb181≠s_)∧(s_≠gb181)∧(gb184≠s_)∧(s_≠gb184)∧(gb187≠s_)∧(s_≠gb187)∧(gb192≠s_)∧(s_≠gb192)∧(Below w.heap.size w w')) ?_ ?_
      rotate_left
      ·intro hCont
       refine two_ (i:=5) (j:=7) (Ni:=some 39) (Nj:=some 11) #[true,true,true,true,true,true,false,false,false] #[true,true,true,true,true,false,false,true,false] rfl rfl rfl rfl (two_of HT_.out (by kernel_rfl)) (by decide) (by decide) (fun K hK=>?_) (fun K hK=>?_)
       ·skip
        refine goes_ Tryd.func14 (by kernel_rfl) rfl #[.int .i64 t178,.agg #[.int .i64 t182,.string t183],.agg #[.int .i64 t185,.string t186]] (by rfl) rfl rfl (by (try simp only [List.map_toArray,List.map_cons,List.map_nil]);first|done|rfl|(simp only [List.length_drop,List.length_take];rfl)) ?_
        with_reducible refine (value_Add.calls k t178 t182 t183 t185 t186 t193 t194 _ A10.out).mono ?_
        rintro e w92 ⟨rfl,hb⟩
        refine ⟨_,rfl,?_⟩
        have n0_:=Aside0.mk (blk_below (blk_up BK176.out) hb)
        have n1_:=Aside0.mk (blk_below (blk_up BK181.out) hb)
        have n2_:=Aside0.mk (blk_below (blk_up BK184.out) hb)
        have n3_:=Aside0.mk (blk_below (blk_up BK187.out) hb)
        have n4_:=Aside0.mk (blk_below (blk_up BK192.out) hb)
        have n5_:=Aside0.mk (below_step (below_go HB.out) hb)
        clear BK176
        clear BK181
        clear BK184
        clear BK187
        clear BK192
        clear HB
        have BK176:=n0_
        have BK181:=n1_
        have BK184:=n2_
        have BK187:=n3_
        have BK192:=n4_
        have HB:=n5_
        clear n0_ n1_ n2_ n3_ n4_ n5_
        (try clear hb)
        (try clear hb2)
        (try clear hk)
        (try clear hi)
        refine hK.out _ _ ⟨(blk_cell BK181.out 0).trans rfl,(blk_cell BK181.out 1).trans rfl,(blk_cell BK184.out 0).trans rfl,(blk_cell BK184.out 1).trans rfl,(blk_cell BK187.out 0).trans rfl,(blk_cell BK187.out 1).trans rfl⟩ (fun hHeld=>?_)
        clear hK K
        refine norm_ (a':=?_) ?_ ?_
        rotate_left
        ·show Act.put _ (some 39) _=_
         simp only [Act.put,List.setIfInBounds_toArray,List.set_cons_zero,List.set_cons_succ,i64_w,i32_w]
         rfl
        refine two_ (i:=6) (j:=7) (Ni:=some 40) (Nj:=some 11) #[true,true,true,true,true,true,true,false,false] #[true,true,true,true,true,true,false,true,false] rfl rfl rfl rfl (two_of HT_.out (by kernel_rfl)) (by decide) (by decide) (fun K hK=>?_) (fun K hK=>?_)
        ·skip
         refine goes_ Tryd.func14 (by kernel_rfl) rfl #[.int .i64 t178,.agg #[.int .i64 t179,.string t180],.agg #[.int .i64 t193,.string t194]] (by rfl) rfl rfl (by (try simp only [List.map_toArray,List.map_cons,List.map_nil]);first|done|rfl|(simp only [List.length_drop,List.length_take];rfl)) ?_
         with_reducible refine (value_Add.calls k t178 t179 t180 t193 t194 t195 t196 _ A11.out).mono ?_
         rintro e w93 ⟨rfl,hb⟩
         refine ⟨_,rfl,?_⟩
         have n0_:=Aside0.mk (blk_below (blk_up BK176.out) hb)
         have n1_:=Aside0.mk (blk_below (blk_up BK181.out) hb)
         have n2_:=Aside0.mk (blk_below (blk_up BK184.out) hb)
         have n3_:=Aside0.mk (blk_below (blk_up BK187.out) hb)
         have n4_:=Aside0.mk (blk_below (blk_up BK192.out) hb)
         have n5_:=Aside0.mk (below_step (below_go HB.out) hb)
         clear BK176
         clear BK181
         clear BK184
         clear BK187
         clear BK192
         clear HB
         have BK176:=n0_
         have BK181:=n1_
         have BK184:=n2_
         have BK187:=n3_
         have BK192:=n4_
         have HB:=n5_
         clear n0_ n1_ n2_ n3_ n4_ n5_
         (try clear hb)
         (try clear hb2)
         (try clear hk)
         (try clear hi)
         refine hK.out _ _ ⟨(blk_cell BK181.out 0).trans rfl,(blk_cell BK181.out 1).trans rfl,(blk_cell BK184.out 0).trans rfl,(blk_cell BK184.out 1).trans rfl,(blk_cell BK187.out 0).trans rfl,(blk_cell BK187.out 1).trans rfl⟩ (fun hHeld=>?_)
         clear hK K
         refine norm_ (a':=?_) ?_ ?_
         rotate_left
         ·show Act.put _ (some 40) _=_
          simp only [Act.put,List.setIfInBounds_toArray,List.set_cons_zero,List.set_cons_succ,i64_w,i32_w]
          rfl
         refine one_ (i:=7) (N:=some 11) #[true,true,true,true,true,true,true,true,false] rfl rfl (one_of HT_.out (by kernel_rfl)) (by decide) (fun K hK=>?_)
         refine box_step ?hg (N:=11) ?hd (cs:=#[.int .i64 0,.string (⟨#[]⟩ : ByteArray)]) (t:=23) ?hr ?_;(case hd=>rfl);(case hg=>rfl);(case hr=>first|(go_simp;done)|(go_simp;rfl))
         intro gb197 hg w94 hbox hb
         have n0_:=Aside0.mk (blk_below (blk_up BK176.out) hb)
         have n1_:=Aside0.mk (blk_below (blk_up BK181.out) hb)
         have n2_:=Aside0.mk (blk_below (blk_up BK184.out) hb)
         have n3_:=Aside0.mk (blk_below (blk_up BK187.out) hb)
         have n4_:=Aside0.mk (blk_below (blk_up BK192.out) hb)
         have n5_:=Aside0.mk (below_step (below_go HB.out) hb)
         have n6_:=Aside0.mk (hbox)
         have n7_:=Aside0.mk ((by rw [hg];exact (below_size (below_go HB.out)) : w.heap.size≤gb197))
         have n8_:=Aside0.mk ((by rw [hg];exact (below_size (below_go HB.out)) : w.heap.size≤gb197))
         have n9_:=Aside0.mk ((by rw [hg];exact Nat.ne_of_lt (blk_lt (blk_up BK176.out)) : gb176≠gb197))
         have n10_:=Aside0.mk ((by rw [hg];exact Nat.ne_of_gt (blk_lt (blk_up BK176.out)) : gb197≠gb176))
         have n11_:=Aside0.mk ((by rw [hg];exact Nat.ne_of_lt (blk_lt (blk_up BK181.out)) : gb181≠gb197))
         have n12_:=Aside0.mk ((by rw [hg];exact Nat.ne_of_gt (blk_lt (blk_up BK181.out)) : gb197≠gb181))
         have n13_:=Aside0.mk ((by rw [hg];exact Nat.ne_of_lt (blk_lt (blk_up BK184.out)) : gb184≠gb197))
         have n14_:=Aside0.mk ((by rw [hg];exact Nat.ne_of_gt (blk_lt (blk_up BK184.out)) : gb197≠gb184))
         have n15_:=Aside0.mk ((by rw [hg];exact Nat.ne_of_lt (blk_lt (blk_up BK187.out)) : gb187≠gb197))
         have n16_:=Aside0.mk ((by rw [hg];exact Nat.ne_of_gt (blk_lt (blk_up BK187.out)) : gb197≠gb187))
         have n17_:=Aside0.mk ((by rw [hg];exact Nat.ne_of_lt (blk_lt (blk_up BK192.out)) : gb192≠gb197))
         have n18_:=Aside0.mk ((by rw [hg];exact Nat.ne_of_gt (blk_lt (blk_up BK192.out)) : gb197≠gb192))
         clear BK176
         clear BK181
         clear BK184
         clear BK187
         clear BK192
         clear HB
         have BK176:=n0_
         have BK181:=n1_
         have BK184:=n2_
         have BK187:=n3_
         have BK192:=n4_
         have HB:=n5_
         have BK197:=n6_
         have GW197:=n7_
         have GE197:=n8_
         have NB176_197:=n9_
         have NB197_176:=n10_
         have NB181_197:=n11_
         have NB197_181:=n12_
         have NB184_197:=n13_
         have NB197_184:=n14_
         have NB187_197:=n15_
         have NB197_187:=n16_
         have NB192_197:=n17_
         have NB197_192:=n18_
         clear n0_ n1_ n2_ n3_ n4_ n5_ n6_ n7_ n8_ n9_ n10_ n11_ n12_ n13_ n14_ n15_ n16_ n17_ n18_
         clear hb hbox hg
         refine hK.out _ _ ⟨(blk_cell BK181.out 0).trans rfl,(blk_cell BK181.out 1).trans rfl,(blk_cell BK184.out 0).trans rfl,(blk_cell BK184.out 1).trans rfl,(blk_cell BK187.out 0).trans rfl,(blk_cell BK187.out 1).trans rfl⟩ (fun hHeld=>?_)
         clear hK K
         refine norm_ (a':=?_) ?_ ?_
         rotate_left
         ·show Act.put _ (some 11) _=_
          simp only [Act.put,List.setIfInBounds_toArray,List.set_cons_zero,List.set_cons_succ,i64_w,i32_w]
          rfl
         exact norm_ (by simp only [putAll,Act.put,List.setIfInBounds_toArray,List.set_cons_zero,List.set_cons_succ]) (hCont (gb197) _ ⟨hHeld,(blk_up BK176.out),(blk_up BK181.out),(blk_up BK184.out),(blk_up BK187.out),(blk_up BK192.out),(blk_up BK197.out),GW197.out,GE197.out,NB176_197.out,NB197_176.out,NB181_197.out,NB197_181.out,NB184_197.out,NB197_184.out,NB187_197.out,NB197_187.out,NB192_197.out,NB197_192.out,(below_go HB.out)⟩)
        ·skip
         refine box_step ?hg (N:=11) ?hd (cs:=#[.int .i64 0,.string (⟨#[]⟩ : ByteArray)]) (t:=23) ?hr ?_;(case hd=>rfl);(case hg=>rfl);(case hr=>first|(go_simp;done)|(go_simp;rfl))
         intro gb197 hg w93 hbox hb
         have n0_:=Aside0.mk (blk_below (blk_up BK176.out) hb)
         have n1_:=Aside0.mk (blk_below (blk_up BK181.out) hb)
         have n2_:=Aside0.mk (blk_below (blk_up BK184.out) hb)
         have n3_:=Aside0.mk (blk_below (blk_up BK187.out) hb)
         have n4_:=Aside0.mk (blk_below (blk_up BK192.out) hb)
         have n5_:=Aside0.mk (below_step (below_go HB.out) hb)
         have n6_:=Aside0.mk (hbox)
         have n7_:=Aside0.mk ((by rw [hg];exact (below_size (below_go HB.out)) : w.heap.size≤gb197))
         have n8_:=Aside0.mk ((by rw [hg];exact (below_size (below_go HB.out)) : w.heap.size≤gb197))
         have n9_:=Aside0.mk ((by rw [hg];exact Nat.ne_of_lt (blk_lt (blk_up BK176.out)) : gb176≠gb197))
         have n10_:=Aside0.mk ((by rw [hg];exact Nat.ne_of_gt (blk_lt (blk_up BK176.out)) : gb197≠gb176))
         have n11_:=Aside0.mk ((by rw [hg];exact Nat.ne_of_lt (blk_lt (blk_up BK181.out)) : gb181≠gb197))
         have n12_:=Aside0.mk ((by rw [hg];exact Nat.ne_of_gt (blk_lt (blk_up BK181.out)) : gb197≠gb181))
         have n13_:=Aside0.mk ((by rw [hg];exact Nat.ne_of_lt (blk_lt (blk_up BK184.out)) : gb184≠gb197))
         have n14_:=Aside0.mk ((by rw [hg];exact Nat.ne_of_gt (blk_lt (blk_up BK184.out)) : gb197≠gb184))
         have n15_:=Aside0.mk ((by rw [hg];exact Nat.ne_of_lt (blk_lt (blk_up BK187.out)) : gb187≠gb197))
         have n16_:=Aside0.mk ((by rw [hg];exact Nat.ne_of_gt (blk_lt (blk_up BK187.out)) : gb197≠gb187))
         have n17_:=Aside0.mk ((by rw [hg];exact Nat.ne_of_lt (blk_lt (blk_up BK192.out)) : gb192≠gb197))
         have n18_:=Aside0.mk ((by rw [hg];exact Nat.ne_of_gt (blk_lt (blk_up BK192.out)) : gb197≠gb192))
         clear BK176
         clear BK181
         clear BK184
         clear BK187
         clear BK192
         clear HB
         have BK176:=n0_
         have BK181:=n1_
         have BK184:=n2_
         have BK187:=n3_
         have BK192:=n4_
         have HB:=n5_
         have BK197:=n6_
         have GW197:=n7_
         have GE197:=n8_
         have NB176_197:=n9_
         have NB197_176:=n10_
         have NB181_197:=n11_
         have NB197_181:=n12_
         have NB184_197:=n13_
         have NB197_184:=n14_
         have NB187_197:=n15_
         have NB197_187:=n16_
         have NB192_197:=n17_
         have NB197_192:=n18_
         clear n0_ n1_ n2_ n3_ n4_ n5_ n6_ n7_ n8_ n9_ n10_ n11_ n12_ n13_ n14_ n15_ n16_ n17_ n18_
         clear hb hbox hg
         refine hK.out _ _ ⟨(blk_cell BK181.out 0).trans rfl,(blk_cell BK181.out 1).trans rfl,(blk_cell BK184.out 0).trans rfl,(blk_cell BK184.out 1).trans rfl,(blk_cell BK187.out 0).trans rfl,(blk_cell BK187.out 1).trans rfl⟩ (fun hHeld=>?_)
         clear hK K
         refine norm_ (a':=?_) ?_ ?_
         rotate_left
         ·show Act.put _ (some 11) _=_
          simp only [Act.put,List.setIfInBounds_toArray,List.set_cons_zero,List.set_cons_succ,i64_w,i32_w]
          rfl
         refine one_ (i:=6) (N:=some 40) #[true,true,true,true,true,true,true,true,false] rfl rfl (one_of HT_.out (by kernel_rfl)) (by decide) (fun K hK=>?_)
         refine goes_ Tryd.func14 (by kernel_rfl) rfl #[.int .i64 t178,.agg #[.int .i64 t179,.string t180],.agg #[.int .i64 t193,.string t194]] (by rfl) rfl rfl (by (try simp only [List.map_toArray,List.map_cons,List.map_nil]);first|done|rfl|(simp only [List.length_drop,List.length_take];rfl)) ?_
         with_reducible refine (value_Add.calls k t178 t179 t180 t193 t194 t195 t196 _ A11.out).mono ?_
         rintro e w94 ⟨rfl,hb⟩
         refine ⟨_,rfl,?_⟩
         have n0_:=Aside0.mk (blk_below (blk_up BK176.out) hb)
         have n1_:=Aside0.mk (blk_below (blk_up BK181.out) hb)
         have n2_:=Aside0.mk (blk_below (blk_up BK184.out) hb)
         have n3_:=Aside0.mk (blk_below (blk_up BK187.out) hb)
         have n4_:=Aside0.mk (blk_below (blk_up BK192.out) hb)
         have n5_:=Aside0.mk (blk_below (g:=gb197) (o:=.cells #[.int .i64 0,.string (⟨#[]⟩ : ByteArray)] 23 (0,0)) (blk_up BK197.out) hb)
         have n6_:=Aside0.mk (below_step (below_go HB.out) hb)
         clear BK176
         clear BK181
         clear BK184
         clear BK187
         clear BK192
         clear BK197
         clear HB
         have BK176:=n0_
         have BK181:=n1_
         have BK184:=n2_
         have BK187:=n3_
         have BK192:=n4_
         have BK197:=n5_
         have HB:=n6_
         clear n0_ n1_ n2_ n3_ n4_ n5_ n6_
         (try clear hb)
         (try clear hb2)
         (try clear hk)
         (try clear hi)
         refine hK.out _ _ ⟨(blk_cell BK181.out 0).trans rfl,(blk_cell BK181.out 1).trans rfl,(blk_cell BK184.out 0).trans rfl,(blk_cell BK184.out 1).trans rfl,(blk_cell BK187.out 0).trans rfl,(blk_cell BK187.out 1).trans rfl⟩ (fun hHeld=>?_)
         clear hK K
         refine norm_ (a':=?_) ?_ ?_
         rotate_left
         ·show Act.put _ (some 40) _=_
          simp only [Act.put,List.setIfInBounds_toArray,List.set_cons_zero,List.set_cons_succ,i64_w,i32_w]
          rfl
         exact norm_ (by simp only [putAll,Act.put,List.setIfInBounds_toArray,List.set_cons_zero,List.set_cons_succ]) (hCont (gb197) _ ⟨hHeld,(blk_up BK176.out),(blk_up BK181.out),(blk_up BK184.out),(blk_up BK187.out),(blk_up BK192.out),(blk_up BK197.out),GW197.out,GE197.out,NB176_197.out,NB197_176.out,NB181_197.out,NB197_181.out,NB184_197.out,NB197_184.out,NB187_197.out,NB197_187.out,NB192_197.out,NB197_192.out,(below_go HB.out)⟩)
       ·skip
        refine box_step ?hg (N:=11) ?hd (cs:=#[.int .i64 0,.string (⟨#[]⟩ : ByteArray)]) (t:=23) ?hr ?_;(case hd=>rfl);(case hg=>rfl);(case hr=>first|(go_simp;done)|(go_simp;rfl))
        intro gb197 hg w92 hbox hb
        have n0_:=Aside0.mk (blk_below (blk_up BK176.out) hb)
        have n1_:=Aside0.mk (blk_below (blk_up BK181.out) hb)
        have n2_:=Aside0.mk (blk_below (blk_up BK184.out) hb)
        have n3_:=Aside0.mk (blk_below (blk_up BK187.out) hb)
        have n4_:=Aside0.mk (blk_below (blk_up BK192.out) hb)
        have n5_:=Aside0.mk (below_step (below_go HB.out) hb)
        have n6_:=Aside0.mk (hbox)
        have n7_:=Aside0.mk ((by rw [hg];exact (below_size (below_go HB.out)) : w.heap.size≤gb197))
        have n8_:=Aside0.mk ((by rw [hg];exact (below_size (below_go HB.out)) : w.heap.size≤gb197))
        have n9_:=Aside0.mk ((by rw [hg];exact Nat.ne_of_lt (blk_lt (blk_up BK176.out)) : gb176≠gb197))
        have n10_:=Aside0.mk ((by rw [hg];exact Nat.ne_of_gt (blk_lt (blk_up BK176.out)) : gb197≠gb176))
        have n11_:=Aside0.mk ((by rw [hg];exact Nat.ne_of_lt (blk_lt (blk_up BK181.out)) : gb181≠gb197))
        have n12_:=Aside0.mk ((by rw [hg];exact Nat.ne_of_gt (blk_lt (blk_up BK181.out)) : gb197≠gb181))
        have n13_:=Aside0.mk ((by rw [hg];exact Nat.ne_of_lt (blk_lt (blk_up BK184.out)) : gb184≠gb197))
        have n14_:=Aside0.mk ((by rw [hg];exact Nat.ne_of_gt (blk_lt (blk_up BK184.out)) : gb197≠gb184))
        have n15_:=Aside0.mk ((by rw [hg];exact Nat.ne_of_lt (blk_lt (blk_up BK187.out)) : gb187≠gb197))
        have n16_:=Aside0.mk ((by rw [hg];exact Nat.ne_of_gt (blk_lt (blk_up BK187.out)) : gb197≠gb187))
        have n17_:=Aside0.mk ((by rw [hg];exact Nat.ne_of_lt (blk_lt (blk_up BK192.out)) : gb192≠gb197))
        have n18_:=Aside0.mk ((by rw [hg];exact Nat.ne_of_gt (blk_lt (blk_up BK192.out)) : gb197≠gb192))
        clear BK176
        clear BK181
        clear BK184
        clear BK187
        clear BK192
        clear HB
        have BK176:=n0_
        have BK181:=n1_
        have BK184:=n2_
        have BK187:=n3_
        have BK192:=n4_
        have HB:=n5_
        have BK197:=n6_
        have GW197:=n7_
        have GE197:=n8_
        have NB176_197:=n9_
        have NB197_176:=n10_
        have NB181_197:=n11_
        have NB197_181:=n12_
        have NB184_197:=n13_
        have NB197_184:=n14_
        have NB187_197:=n15_
        have NB197_187:=n16_
        have NB192_197:=n17_
        have NB197_192:=n18_
        clear n0_ n1_ n2_ n3_ n4_ n5_ n6_ n7_ n8_ n9_ n10_ n11_ n12_ n13_ n14_ n15_ n16_ n17_ n18_
        clear hb hbox hg
        refine hK.out _ _ ⟨(blk_cell BK181.out 0).trans rfl,(blk_cell BK181.out 1).trans rfl,(blk_cell BK184.out 0).trans rfl,(blk_cell BK184.out 1).trans rfl,(blk_cell BK187.out 0).trans rfl,(blk_cell BK187.out 1).trans rfl⟩ (fun hHeld=>?_)
        clear hK K
        refine norm_ (a':=?_) ?_ ?_
        rotate_left
        ·show Act.put _ (some 11) _=_
         simp only [Act.put,List.setIfInBounds_toArray,List.set_cons_zero,List.set_cons_succ,i64_w,i32_w]
         rfl
        refine one_ (i:=5) (N:=some 39) #[true,true,true,true,true,true,false,true,false] rfl rfl (one_of HT_.out (by kernel_rfl)) (by decide) (fun K hK=>?_)
        refine goes_ Tryd.func14 (by kernel_rfl) rfl #[.int .i64 t178,.agg #[.int .i64 t182,.string t183],.agg #[.int .i64 t185,.string t186]] (by rfl) rfl rfl (by (try simp only [List.map_toArray,List.map_cons,List.map_nil]);first|done|rfl|(simp only [List.length_drop,List.length_take];rfl)) ?_
        with_reducible refine (value_Add.calls k t178 t182 t183 t185 t186 t193 t194 _ A10.out).mono ?_
        rintro e w93 ⟨rfl,hb⟩
        refine ⟨_,rfl,?_⟩
        have n0_:=Aside0.mk (blk_below (blk_up BK176.out) hb)
        have n1_:=Aside0.mk (blk_below (blk_up BK181.out) hb)
        have n2_:=Aside0.mk (blk_below (blk_up BK184.out) hb)
        have n3_:=Aside0.mk (blk_below (blk_up BK187.out) hb)
        have n4_:=Aside0.mk (blk_below (blk_up BK192.out) hb)
        have n5_:=Aside0.mk (blk_below (g:=gb197) (o:=.cells #[.int .i64 0,.string (⟨#[]⟩ : ByteArray)] 23 (0,0)) (blk_up BK197.out) hb)
        have n6_:=Aside0.mk (below_step (below_go HB.out) hb)
        clear BK176
        clear BK181
        clear BK184
        clear BK187
        clear BK192
        clear BK197
        clear HB
        have BK176:=n0_
        have BK181:=n1_
        have BK184:=n2_
        have BK187:=n3_
        have BK192:=n4_
        have BK197:=n5_
        have HB:=n6_
        clear n0_ n1_ n2_ n3_ n4_ n5_ n6_
        (try clear hb)
        (try clear hb2)
        (try clear hk)
        (try clear hi)
        refine hK.out _ _ ⟨(blk_cell BK181.out 0).trans rfl,(blk_cell BK181.out 1).trans rfl,(blk_cell BK184.out 0).trans rfl,(blk_cell BK184.out 1).trans rfl,(blk_cell BK187.out 0).trans rfl,(blk_cell BK187.out 1).trans rfl⟩ (fun hHeld=>?_)
        clear hK K
        refine norm_ (a':=?_) ?_ ?_
        rotate_left
        ·show Act.put _ (some 39) _=_
         simp only [Act.put,List.setIfInBounds_toArray,List.set_cons_zero,List.set_cons_succ,i64_w,i32_w]
         rfl
        refine one_ (i:=6) (N:=some 40) #[true,true,true,true,true,true,true,true,false] rfl rfl (one_of HT_.out (by kernel_rfl)) (by decide) (fun K hK=>?_)
        refine goes_ Tryd.func14 (by kernel_rfl) rfl #[.int .i64 t178,.agg #[.int .i64 t179,.string t180],.agg #[.int .i64 t193,.string t194]] (by rfl) rfl rfl (by (try simp only [List.map_toArray,List.map_cons,List.map_nil]);first|done|rfl|(simp only [List.length_drop,List.length_take];rfl)) ?_
        with_reducible refine (value_Add.calls k t178 t179 t180 t193 t194 t195 t196 _ A11.out).mono ?_
        rintro e w94 ⟨rfl,hb⟩
        refine ⟨_,rfl,?_⟩
        have n0_:=Aside0.mk (blk_below (blk_up BK176.out) hb)
        have n1_:=Aside0.mk (blk_below (blk_up BK181.out) hb)
        have n2_:=Aside0.mk (blk_below (blk_up BK184.out) hb)
        have n3_:=Aside0.mk (blk_below (blk_up BK187.out) hb)
        have n4_:=Aside0.mk (blk_below (blk_up BK192.out) hb)
        have n5_:=Aside0.mk (blk_below (g:=gb197) (o:=.cells #[.int .i64 0,.string (⟨#[]⟩ : ByteArray)] 23 (0,0)) (blk_up BK197.out) hb)
        have n6_:=Aside0.mk (below_step (below_go HB.out) hb)
        clear BK176
        clear BK181
        clear BK184
        clear BK187
        clear BK192
        clear BK197
        clear HB
        have BK176:=n0_
        have BK181:=n1_
        have BK184:=n2_
        have BK187:=n3_
        have BK192:=n4_
        have BK197:=n5_
        have HB:=n6_
        clear n0_ n1_ n2_ n3_ n4_ n5_ n6_
        (try clear hb)
        (try clear hb2)
        (try clear hk)
        (try clear hi)
        refine hK.out _ _ ⟨(blk_cell BK181.out 0).trans rfl,(blk_cell BK181.out 1).trans rfl,(blk_cell BK184.out 0).trans rfl,(blk_cell BK184.out 1).trans rfl,(blk_cell BK187.out 0).trans rfl,(blk_cell BK187.out 1).trans rfl⟩ (fun hHeld=>?_)
        clear hK K
        refine norm_ (a':=?_) ?_ ?_
        rotate_left
        ·show Act.put _ (some 40) _=_
         simp only [Act.put,List.setIfInBounds_toArray,List.set_cons_zero,List.set_cons_succ,i64_w,i32_w]
         rfl
        exact norm_ (by simp only [putAll,Act.put,List.setIfInBounds_toArray,List.set_cons_zero,List.set_cons_succ]) (hCont (gb197) _ ⟨hHeld,(blk_up BK176.out),(blk_up BK181.out),(blk_up BK184.out),(blk_up BK187.out),(blk_up BK192.out),(blk_up BK197.out),GW197.out,GE197.out,NB176_197.out,NB197_176.out,NB181_197.out,NB197_181.out,NB184_197.out,NB197_184.out,NB187_197.out,NB197_187.out,NB192_197.out,NB197_192.out,(below_go HB.out)⟩)
      rintro gb197 w95 ⟨hS_,h0_,h1_,h2_,h3_,h4_,h5_,h6_,h7_,h8_,h9_,h10_,h11_,h12_,h13_,h14_,h15_,h16_,h17_,h18_⟩
      have n0_ : Aside0 (w95.heap[gb176]?=some (.cells #[.int .i64 a1_0,.string a1_1,.int .i64 a1_2,.string a1_3,.int .i64 a1_4,.string a1_5] 24 (0,0))):=⟨h0_⟩
      have n1_ : Aside0 (w95.heap[gb181]?=some (.cells #[.int .i64 t179,.string t180] 23 (0,0))):=⟨h1_⟩
      have n2_ : Aside0 (w95.heap[gb184]?=some (.cells #[.int .i64 t182,.string t183] 23 (0,0))):=⟨h2_⟩
      have n3_ : Aside0 (w95.heap[gb187]?=some (.cells #[.int .i64 t185,.string t186] 23 (0,0))):=⟨h3_⟩
      have n4_ : Aside0 (w95.heap[gb192]?=some (.cells #[.int .i64 t190,.string t191] 23 (0,0))):=⟨h4_⟩
      have n5_ : Aside0 (w95.heap[gb197]?=some (.cells #[.int .i64 0,.string (⟨#[]⟩ : ByteArray)] 23 (0,0))):=⟨h5_⟩
      have n6_ : Aside0 (w.heap.size≤gb197):=⟨h6_⟩
      have n7_ : Aside0 (w.heap.size≤gb197):=⟨h7_⟩
      have n8_ : Aside0 (gb176≠gb197):=⟨h8_⟩
      have n9_ : Aside0 (gb197≠gb176):=⟨h9_⟩
      have n10_ : Aside0 (gb181≠gb197):=⟨h10_⟩
      have n11_ : Aside0 (gb197≠gb181):=⟨h11_⟩
      have n12_ : Aside0 (gb184≠gb197):=⟨h12_⟩
      have n13_ : Aside0 (gb197≠gb184):=⟨h13_⟩
      have n14_ : Aside0 (gb187≠gb197):=⟨h14_⟩
      have n15_ : Aside0 (gb197≠gb187):=⟨h15_⟩
      have n16_ : Aside0 (gb192≠gb197):=⟨h16_⟩
      have n17_ : Aside0 (gb197≠gb192):=⟨h17_⟩
      have n18_ : Aside0 (Below w.heap.size w w95):=⟨h18_⟩
      clear BK176
      clear BK181
      clear BK184
      clear BK187
      clear BK192
      clear HB
      clear h0_ h1_ h2_ h3_ h4_ h5_ h6_ h7_ h8_ h9_ h10_ h11_ h12_ h13_ h14_ h15_ h16_ h17_ h18_
      have BK176:=n0_
      have BK181:=n1_
      have BK184:=n2_
      have BK187:=n3_
      have BK192:=n4_
      have BK197:=n5_
      have GW197:=n6_
      have GE197:=n7_
      have NB176_197:=n8_
      have NB197_176:=n9_
      have NB181_197:=n10_
      have NB197_181:=n11_
      have NB184_197:=n12_
      have NB197_184:=n13_
      have NB187_197:=n14_
      have NB197_187:=n15_
      have NB192_197:=n16_
      have NB197_192:=n17_
      have HB:=n18_
      clear n0_ n1_ n2_ n3_ n4_ n5_ n6_ n7_ n8_ n9_ n10_ n11_ n12_ n13_ n14_ n15_ n16_ n17_ n18_
      have hHeld : w95.cell? ⟨gb181,0,none⟩=some (.int .i64 t179)∧w95.cell? ⟨gb181,1,none⟩=some (.string t180)∧w95.cell? ⟨gb184,0,none⟩=some (.int .i64 t182)∧w95.cell? ⟨gb184,1,none⟩=some (.string t183)∧w95.cell? ⟨gb187,0,none⟩=some (.int .i64 t185)∧w95.cell? ⟨gb187,1,none⟩=some (.string t186):=hS_
      refine norm_ (a':=?_) ?_ ?_
      rotate_left
      ·simp only [putAll,Act.put,List.setIfInBounds_toArray,List.set_cons_zero,List.set_cons_succ]
       rfl
      refine one_ (i:=8) (N:=none) #[true,true,true,true,true,true,true,true,true] rfl rfl (one_of HT_.out (by kernel_rfl)) (by decide) (fun K hK=>?_)
      have hs96 : w95.cell? ⟨gb197,0,none⟩=some (.int .i64 0):=(blk_cell BK197.out 0).trans rfl
      have hfs96:=blk_frozen BK197.out 0
      have hns96_0:=NB176_197.out
      have hns96_1:=NB181_197.out
      have hns96_2:=NB184_197.out
      have hns96_3:=NB187_197.out
      have hns96_4:=NB192_197.out
      have hms96_0:=NB197_176.out
      have hms96_1:=NB197_181.out
      have hms96_2:=NB197_184.out
      have hms96_3:=NB197_187.out
      have hms96_4:=NB197_192.out
      have hs97 : w95.cell? ⟨gb197,1,none⟩=some (.string (⟨#[]⟩ : ByteArray)):=(blk_cell BK197.out 1).trans rfl
      have hfs97:=blk_frozen BK197.out 1
      have hns97_0:=NB176_197.out
      have hns97_1:=NB181_197.out
      have hns97_2:=NB184_197.out
      have hns97_3:=NB187_197.out
      have hns97_4:=NB192_197.out
      have hms97_0:=NB197_176.out
      have hms97_1:=NB197_181.out
      have hms97_2:=NB197_184.out
      have hms97_3:=NB197_187.out
      have hms97_4:=NB197_192.out
      refine skip_ (w1:=?_) (by rfl) rfl ?_ ?_
      rotate_left
      ·go_simp
       rfl
      refine hK.out _ _ ⟨((cell_far (p:=⟨gb197,_,none⟩) NB181_197.out _).trans (((cell_far (p:=⟨gb197,_,none⟩) NB181_197.out _).trans (hHeld.1)))),((cell_far (p:=⟨gb197,_,none⟩) NB181_197.out _).trans (((cell_far (p:=⟨gb197,_,none⟩) NB181_197.out _).trans (hHeld.2.1)))),((cell_far (p:=⟨gb197,_,none⟩) NB184_197.out _).trans (((cell_far (p:=⟨gb197,_,none⟩) NB184_197.out _).trans (hHeld.2.2.1)))),((cell_far (p:=⟨gb197,_,none⟩) NB184_197.out _).trans (((cell_far (p:=⟨gb197,_,none⟩) NB184_197.out _).trans (hHeld.2.2.2.1)))),((cell_far (p:=⟨gb197,_,none⟩) NB187_197.out _).trans (((cell_far (p:=⟨gb197,_,none⟩) NB187_197.out _).trans (hHeld.2.2.2.2.1)))),((cell_far (p:=⟨gb197,_,none⟩) NB187_197.out _).trans (((cell_far (p:=⟨gb197,_,none⟩) NB187_197.out _).trans (hHeld.2.2.2.2.2))))⟩ (fun hHeld=>?_)
      clear hK K
      refine done_ (done_of HT_.out (by kernel_rfl)) ?_
      (try clear hHeld)
      have hnb98:=NB192_176.out
      have hnc98:=NB176_192.out
      have hnb99:=NB192_181.out
      have hnc99:=NB181_192.out
      have hnb100:=NB192_184.out
      have hnc100:=NB184_192.out
      have hnb101:=NB192_187.out
      have hnc101:=NB187_192.out
      have hnb102:=NB192_197.out
      have hnc102:=NB197_192.out
      have hcz103_0 : w95.cell? ⟨gb192,0,none⟩=some (.int .i64 t190):=(blk_cell BK192.out 0).trans rfl
      have hcz103_1 : w95.cell? ⟨gb192,1,none⟩=some (.string t191):=(blk_cell BK192.out 1).trans rfl
      have hfz103_0:=blk_frozen BK192.out 0
      have hfz103_1:=blk_frozen BK192.out 1
      have hnb104:=NB197_176.out
      have hnc104:=NB176_197.out
      have hnb105:=NB197_181.out
      have hnc105:=NB181_197.out
      have hnb106:=NB197_184.out
      have hnc106:=NB184_197.out
      have hnb107:=NB197_187.out
      have hnc107:=NB187_197.out
      have hcz108_0 : w95.cell? ⟨gb197,0,none⟩=some (.int .i64 0):=(blk_cell BK197.out 0).trans rfl
      have hcz108_1 : w95.cell? ⟨gb197,1,none⟩=some (.string (⟨#[]⟩ : ByteArray)):=(blk_cell BK197.out 1).trans rfl
      have hfz108_0:=blk_frozen BK197.out 0
      have hfz108_1:=blk_frozen BK197.out 1
      have hcz109_0 : w95.cell? ⟨gb187,0,none⟩=some (.int .i64 t185):=(blk_cell BK187.out 0).trans rfl
      have hcz109_1 : w95.cell? ⟨gb187,1,none⟩=some (.string t186):=(blk_cell BK187.out 1).trans rfl
      have hfz109_0:=blk_frozen BK187.out 0
      have hfz109_1:=blk_frozen BK187.out 1
      try go_wp2
      go_ret
      exact ⟨by first|rfl|(simp [errW_none,errW_some] <;> rfl)|(simp [*,errW_none,errW_some] <;> rfl),by repeat (first|(with_reducible first|exact HB.out|apply below_alloc|apply pw_below_drewN|apply below_drew1|refine below_set ?_ GE176.out|refine below_set ?_ GE181.out|refine below_set ?_ GE184.out|refine below_set ?_ GE187.out|refine below_set ?_ GE192.out|refine below_set ?_ GE197.out)|exact HB.out)⟩
     ·replace c61:=Bool.eq_false_iff.mpr c61
      subst c61
      have H1 : (some false)=some r:=by rw [if_neg (show ¬ (false=true) by decide)] at H;exact H
      clear H
      have H:=H1
      clear H1
      obtain rfl:=Option.some.inj H
      go_enter Tryd.func6,Tryd.ntmps6
      try go_wp2_with (first|((with_reducible refine gate_dst (N:=3) rfl ?_);refine box_event ?hg (N:=3) ?hd (cs:=#[.int .i64 a1_0,.string a1_1,.int .i64 a1_2,.string a1_3,.int .i64 a1_4,.string a1_5]) (t:=24) ?hr ?_;(case hd=>rfl);(case hg=>rfl);(case hr=>first|(go_simp;done)|(go_simp;rfl));intro gb176 hg w110 hbox hb;have n0_:=Aside0.mk (below_step (below_up HB.out) hb);have n1_:=Aside0.mk (hbox);have n2_:=Aside0.mk ((by rw [hg];exact (below_size (below_up HB.out)) : w.heap.size≤gb176));have n3_:=Aside0.mk ((by rw [hg];exact (below_size (below_up HB.out)) : w.heap.size≤gb176));clear HB;have HB:=n0_;have BK176:=n1_;have GW176:=n2_;have GE176:=n3_;clear n0_ n1_ n2_ n3_;clear hb hbox hg)|((with_reducible refine gate_callee (f:=9) rfl ?_);refine goesL_ (some 12) rfl rfl Tryd.func9 (by kernel_rfl) rfl #[] rfl (by (try simp only [List.map_toArray,List.map_cons,List.map_nil]);first|done|rfl|(simp only [List.length_drop,List.length_take];rfl)) ?_;(with_reducible refine (thresherlaw03_shown.calls k  false _ A3.out (HTAB_.out.on (below_go HB.out))).mono ?_);rintro e w111 ⟨rfl,hb⟩;refine ⟨_,rfl,?_⟩;have n0_:=Aside0.mk (blk_below (blk_up BK176.out) hb);have n1_:=Aside0.mk (below_step (below_go HB.out) hb);clear BK176;clear HB;have BK176:=n0_;have HB:=n1_;clear n0_ n1_;(try clear hb);(try clear hb2);(try clear hk);(try clear hi))|((with_reducible refine gate_callee (f:=10) rfl ?_);refine goesL_ (some 14) rfl rfl Tryd.func10 (by kernel_rfl) rfl #[.int .u8 a0] rfl (by (try simp only [List.map_toArray,List.map_cons,List.map_nil]);first|done|rfl|(simp only [List.length_drop,List.length_take];rfl)) ?_;(with_reducible refine (thresherlaw03_kind.calls a0 t178 _ A4.out).mono ?_);rintro e w' ⟨rfl,⟨nd,rfl⟩⟩;refine ⟨_,rfl,?_⟩;(try (rw [drewN_self w111];generalize hq_ : World.drewN w111 _=w111;have n0_ : Aside0 (w111.heap[gb176]?=some (.cells #[.int .i64 a1_0,.string a1_1,.int .i64 a1_2,.string a1_3,.int .i64 a1_4,.string a1_5] 24 (0,0))):=⟨by rw [← hq_];exact (blk_up BK176.out)⟩;have n1_ : Aside0 (Below w.heap.size w w111):=⟨by rw [← hq_];exact (below_go HB.out)⟩;clear BK176 HB hq_;have BK176:=n0_;have HB:=n1_;clear n0_ n1_));have hcz112_0 : w111.cell? ⟨gb176,0,none⟩=some (.int .i64 a1_0):=(blk_cell BK176.out 0).trans rfl;have hcz112_1 : w111.cell? ⟨gb176,1,none⟩=some (.string a1_1):=(blk_cell BK176.out 1).trans rfl;have hcz112_2 : w111.cell? ⟨gb176,2,none⟩=some (.int .i64 a1_2):=(blk_cell BK176.out 2).trans rfl;have hcz112_3 : w111.cell? ⟨gb176,3,none⟩=some (.string a1_3):=(blk_cell BK176.out 3).trans rfl;have hcz112_4 : w111.cell? ⟨gb176,4,none⟩=some (.int .i64 a1_4):=(blk_cell BK176.out 4).trans rfl;have hcz112_5 : w111.cell? ⟨gb176,5,none⟩=some (.string a1_5):=(blk_cell BK176.out 5).trans rfl;have hfz112_0:=blk_frozen BK176.out 0;have hfz112_1:=blk_frozen BK176.out 1;have hfz112_2:=blk_frozen BK176.out 2;have hfz112_3:=blk_frozen BK176.out 3;have hfz112_4:=blk_frozen BK176.out 4;have hfz112_5:=blk_frozen BK176.out 5)|((with_reducible refine gate_callee (f:=11) rfl ?_);refine goesL_ (some 18) rfl rfl Tryd.func11 (by kernel_rfl) rfl #[.int .i64 t178,.agg #[.int .i64 a1_0,.string a1_1]] rfl (by (try simp only [List.map_toArray,List.map_cons,List.map_nil]);first|done|rfl|(simp only [List.length_drop,List.length_take];rfl)) ?_;(with_reducible refine (thresherlaw03_fit.calls t178 a1_0 a1_1 t179 t180 _ A5.out).mono ?_);rintro e w113 ⟨rfl,hb⟩;refine ⟨_,rfl,?_⟩;have n0_:=Aside0.mk (blk_below (blk_up BK176.out) hb);have n1_:=Aside0.mk (below_step (below_go HB.out) hb);clear BK176;clear HB;have BK176:=n0_;have HB:=n1_;clear n0_ n1_;(try clear hb);(try clear hb2);(try clear hk);(try clear hi))|((with_reducible refine gate_dst (N:=7) rfl ?_);refine box_event ?hg (N:=7) ?hd (cs:=#[.int .i64 0,.string (⟨#[]⟩ : ByteArray)]) (t:=23) ?hr ?_;(case hd=>rfl);(case hg=>rfl);(case hr=>first|(go_simp;done)|(go_simp;rfl));intro gb181 hg w114 hbox hb;have n0_:=Aside0.mk (blk_below (blk_up BK176.out) hb);have n1_:=Aside0.mk (below_step (below_go HB.out) hb);have n2_:=Aside0.mk (hbox);have n3_:=Aside0.mk ((by rw [hg];exact (below_size (below_go HB.out)) : w.heap.size≤gb181));have n4_:=Aside0.mk ((by rw [hg];exact (below_size (below_go HB.out)) : w.heap.size≤gb181));have n5_:=Aside0.mk ((by rw [hg];exact Nat.ne_of_lt (blk_lt (blk_up BK176.out)) : gb176≠gb181));have n6_:=Aside0.mk ((by rw [hg];exact Nat.ne_of_gt (blk_lt (blk_up BK176.out)) : gb181≠gb176));clear BK176;clear HB;have BK176:=n0_;have HB:=n1_;have BK181:=n2_;have GW181:=n3_;have GE181:=n4_;have NB176_181:=n5_;have NB181_176:=n6_;clear n0_ n1_ n2_ n3_ n4_ n5_ n6_;clear hb hbox hg;have hnb115:=NB181_176.out;have hnc115:=NB176_181.out;have hcz116_0 : w114.cell? ⟨gb181,0,none⟩=some (.int .i64 0):=(blk_cell BK181.out 0).trans rfl;have hcz116_1 : w114.cell? ⟨gb181,1,none⟩=some (.string (⟨#[]⟩ : ByteArray)):=(blk_cell BK181.out 1).trans rfl;have hfz116_0:=blk_frozen BK181.out 0;have hfz116_1:=blk_frozen BK181.out 1;have hcz117_0 : w114.cell? ⟨gb176,0,none⟩=some (.int .i64 a1_0):=(blk_cell BK176.out 0).trans rfl;have hcz117_1 : w114.cell? ⟨gb176,1,none⟩=some (.string a1_1):=(blk_cell BK176.out 1).trans rfl;have hcz117_2 : w114.cell? ⟨gb176,2,none⟩=some (.int .i64 a1_2):=(blk_cell BK176.out 2).trans rfl;have hcz117_3 : w114.cell? ⟨gb176,3,none⟩=some (.string a1_3):=(blk_cell BK176.out 3).trans rfl;have hcz117_4 : w114.cell? ⟨gb176,4,none⟩=some (.int .i64 a1_4):=(blk_cell BK176.out 4).trans rfl;have hcz117_5 : w114.cell? ⟨gb176,5,none⟩=some (.string a1_5):=(blk_cell BK176.out 5).trans rfl;have hfz117_0:=blk_frozen BK176.out 0;have hfz117_1:=blk_frozen BK176.out 1;have hfz117_2:=blk_frozen BK176.out 2;have hfz117_3:=blk_frozen BK176.out 3;have hfz117_4:=blk_frozen BK176.out 4;have hfz117_5:=blk_frozen BK176.out 5)|((with_reducible refine gate_callee (f:=11) rfl ?_);refine goesL_ (some 22) rfl rfl Tryd.func11 (by kernel_rfl) rfl #[.int .i64 t178,.agg #[.int .i64 a1_2,.string a1_3]] rfl (by (try simp only [List.map_toArray,List.map_cons,List.map_nil]);first|done|rfl|(simp only [List.length_drop,List.length_take];rfl)) ?_;(with_reducible refine (thresherlaw03_fit.calls t178 a1_2 a1_3 t182 t183 _ A6.out).mono ?_);rintro e w118 ⟨rfl,hb⟩;refine ⟨_,rfl,?_⟩;have n0_:=Aside0.mk (blk_below (g:=gb176) (o:=.cells #[.int .i64 a1_0,.string a1_1,.int .i64 a1_2,.string a1_3,.int .i64 a1_4,.string a1_5] 24 (0,0)) (by (with_reducible repeat (first|refine blk_drewN ?_ _|refine blk_drew ?_|refine blk_alloc ?_ _));refine blk_far ?_ NB176_181.out _;(with_reducible repeat (first|refine blk_drewN ?_ _|refine blk_drew ?_|refine blk_alloc ?_ _));refine blk_far ?_ NB176_181.out _;(with_reducible repeat (first|refine blk_drewN ?_ _|refine blk_drew ?_|refine blk_alloc ?_ _));exact BK176.out) hb);have n1_:=Aside0.mk (blk_below (g:=gb181) (o:=.cells #[.int .i64 t179,.string t180] 23 (0,0)) (by (with_reducible repeat (first|refine blk_drewN ?_ _|refine blk_drew ?_|refine blk_alloc ?_ _));refine blk_put (cs:=#[.int .i64 t179,.string (⟨#[]⟩ : ByteArray)]) ?_ 1 _ rfl;(with_reducible repeat (first|refine blk_drewN ?_ _|refine blk_drew ?_|refine blk_alloc ?_ _));refine blk_put (cs:=#[.int .i64 0,.string (⟨#[]⟩ : ByteArray)]) ?_ 0 _ rfl;(with_reducible repeat (first|refine blk_drewN ?_ _|refine blk_drew ?_|refine blk_alloc ?_ _));exact BK181.out) hb);have n2_:=Aside0.mk (below_step (below_go HB.out) hb);clear BK176;clear BK181;clear HB;have BK176:=n0_;have BK181:=n1_;have HB:=n2_;clear n0_ n1_ n2_;(try clear hb);(try clear hb2);(try clear hk);(try clear hi))|((with_reducible refine gate_dst (N:=8) rfl ?_);refine box_event ?hg (N:=8) ?hd (cs:=#[.int .i64 0,.string (⟨#[]⟩ : ByteArray)]) (t:=23) ?hr ?_;(case hd=>rfl);(case hg=>rfl);(case hr=>first|(go_simp;done)|(go_simp;rfl));intro gb184 hg w119 hbox hb;have n0_:=Aside0.mk (blk_below (blk_up BK176.out) hb);have n1_:=Aside0.mk (blk_below (blk_up BK181.out) hb);have n2_:=Aside0.mk (below_step (below_go HB.out) hb);have n3_:=Aside0.mk (hbox);have n4_:=Aside0.mk ((by rw [hg];exact (below_size (below_go HB.out)) : w.heap.size≤gb184));have n5_:=Aside0.mk ((by rw [hg];exact (below_size (below_go HB.out)) : w.heap.size≤gb184));have n6_:=Aside0.mk ((by rw [hg];exact Nat.ne_of_lt (blk_lt (blk_up BK176.out)) : gb176≠gb184));have n7_:=Aside0.mk ((by rw [hg];exact Nat.ne_of_gt (blk_lt (blk_up BK176.out)) : gb184≠gb176));have n8_:=Aside0.mk ((by rw [hg];exact Nat.ne_of_lt (blk_lt (blk_up BK181.out)) : gb181≠gb184));have n9_:=Aside0.mk ((by rw [hg];exact Nat.ne_of_gt (blk_lt (blk_up BK181.out)) : gb184≠gb181));clear BK176;clear BK181;clear HB;have BK176:=n0_;have BK181:=n1_;have HB:=n2_;have BK184:=n3_;have GW184:=n4_;have GE184:=n5_;have NB176_184:=n6_;have NB184_176:=n7_;have NB181_184:=n8_;have NB184_181:=n9_;clear n0_ n1_ n2_ n3_ n4_ n5_ n6_ n7_ n8_ n9_;clear hb hbox hg;have hnb120:=NB184_176.out;have hnc120:=NB176_184.out;have hnb121:=NB184_181.out;have hnc121:=NB181_184.out;have hcz122_0 : w119.cell? ⟨gb184,0,none⟩=some (.int .i64 0):=(blk_cell BK184.out 0).trans rfl;have hcz122_1 : w119.cell? ⟨gb184,1,none⟩=some (.string (⟨#[]⟩ : ByteArray)):=(blk_cell BK184.out 1).trans rfl;have hfz122_0:=blk_frozen BK184.out 0;have hfz122_1:=blk_frozen BK184.out 1;have hcz123_0 : w119.cell? ⟨gb176,0,none⟩=some (.int .i64 a1_0):=(blk_cell BK176.out 0).trans rfl;have hcz123_1 : w119.cell? ⟨gb176,1,none⟩=some (.string a1_1):=(blk_cell BK176.out 1).trans rfl;have hcz123_2 : w119.cell? ⟨gb176,2,none⟩=some (.int .i64 a1_2):=(blk_cell BK176.out 2).trans rfl;have hcz123_3 : w119.cell? ⟨gb176,3,none⟩=some (.string a1_3):=(blk_cell BK176.out 3).trans rfl;have hcz123_4 : w119.cell? ⟨gb176,4,none⟩=some (.int .i64 a1_4):=(blk_cell BK176.out 4).trans rfl;have hcz123_5 : w119.cell? ⟨gb176,5,none⟩=some (.string a1_5):=(blk_cell BK176.out 5).trans rfl;have hfz123_0:=blk_frozen BK176.out 0;have hfz123_1:=blk_frozen BK176.out 1;have hfz123_2:=blk_frozen BK176.out 2;have hfz123_3:=blk_frozen BK176.out 3;have hfz123_4:=blk_frozen BK176.out 4;have hfz123_5:=blk_frozen BK176.out 5)|((with_reducible refine gate_callee (f:=11) rfl ?_);refine goesL_ (some 26) rfl rfl Tryd.func11 (by kernel_rfl) rfl #[.int .i64 t178,.agg #[.int .i64 a1_4,.string a1_5]] rfl (by (try simp only [List.map_toArray,List.map_cons,List.map_nil]);first|done|rfl|(simp only [List.length_drop,List.length_take];rfl)) ?_;(with_reducible refine (thresherlaw03_fit.calls t178 a1_4 a1_5 t185 t186 _ A7.out).mono ?_);rintro e w124 ⟨rfl,hb⟩;refine ⟨_,rfl,?_⟩;have n0_:=Aside0.mk (blk_below (g:=gb176) (o:=.cells #[.int .i64 a1_0,.string a1_1,.int .i64 a1_2,.string a1_3,.int .i64 a1_4,.string a1_5] 24 (0,0)) (by (with_reducible repeat (first|refine blk_drewN ?_ _|refine blk_drew ?_|refine blk_alloc ?_ _));refine blk_far ?_ NB176_184.out _;(with_reducible repeat (first|refine blk_drewN ?_ _|refine blk_drew ?_|refine blk_alloc ?_ _));refine blk_far ?_ NB176_184.out _;(with_reducible repeat (first|refine blk_drewN ?_ _|refine blk_drew ?_|refine blk_alloc ?_ _));exact BK176.out) hb);have n1_:=Aside0.mk (blk_below (g:=gb181) (o:=.cells #[.int .i64 t179,.string t180] 23 (0,0)) (by (with_reducible repeat (first|refine blk_drewN ?_ _|refine blk_drew ?_|refine blk_alloc ?_ _));refine blk_far ?_ NB181_184.out _;(with_reducible repeat (first|refine blk_drewN ?_ _|refine blk_drew ?_|refine blk_alloc ?_ _));refine blk_far ?_ NB181_184.out _;(with_reducible repeat (first|refine blk_drewN ?_ _|refine blk_drew ?_|refine blk_alloc ?_ _));exact BK181.out) hb);have n2_:=Aside0.mk (blk_below (g:=gb184) (o:=.cells #[.int .i64 t182,.string t183] 23 (0,0)) (by (with_reducible repeat (first|refine blk_drewN ?_ _|refine blk_drew ?_|refine blk_alloc ?_ _));refine blk_put (cs:=#[.int .i64 t182,.string (⟨#[]⟩ : ByteArray)]) ?_ 1 _ rfl;(with_reducible repeat (first|refine blk_drewN ?_ _|refine blk_drew ?_|refine blk_alloc ?_ _));refine blk_put (cs:=#[.int .i64 0,.string (⟨#[]⟩ : ByteArray)]) ?_ 0 _ rfl;(with_reducible repeat (first|refine blk_drewN ?_ _|refine blk_drew ?_|refine blk_alloc ?_ _));exact BK184.out) hb);have n3_:=Aside0.mk (below_step (below_go HB.out) hb);clear BK176;clear BK181;clear BK184;clear HB;have BK176:=n0_;have BK181:=n1_;have BK184:=n2_;have HB:=n3_;clear n0_ n1_ n2_ n3_;(try clear hb);(try clear hb2);(try clear hk);(try clear hi))|((with_reducible refine gate_dst (N:=9) rfl ?_);refine box_event ?hg (N:=9) ?hd (cs:=#[.int .i64 0,.string (⟨#[]⟩ : ByteArray)]) (t:=23) ?hr ?_;(case hd=>rfl);(case hg=>rfl);(case hr=>first|(go_simp;done)|(go_simp;rfl));intro gb187 hg w125 hbox hb;have n0_:=Aside0.mk (blk_below (blk_up BK176.out) hb);have n1_:=Aside0.mk (blk_below (blk_up BK181.out) hb);have n2_:=Aside0.mk (blk_below (blk_up BK184.out) hb);have n3_:=Aside0.mk (below_step (below_go HB.out) hb);have n4_:=Aside0.mk (hbox);have n5_:=Aside0.mk ((by rw [hg];exact (below_size (below_go HB.out)) : w.heap.size≤gb187));have n6_:=Aside0.mk ((by rw [hg];exact (below_size (below_go HB.out)) : w.heap.size≤gb187));have n7_:=Aside0.mk ((by rw [hg];exact Nat.ne_of_lt (blk_lt (blk_up BK176.out)) : gb176≠gb187));have n8_:=Aside0.mk ((by rw [hg];exact Nat.ne_of_gt (blk_lt (blk_up BK176.out)) : gb187≠gb176));have n9_:=Aside0.mk ((by rw [hg];exact Nat.ne_of_lt (blk_lt (blk_up BK181.out)) : gb181≠gb187));have n10_:=Aside0.mk ((by rw [hg];exact Nat.ne_of_gt (blk_lt (blk_up BK181.out)) : gb187≠gb181));have n11_:=Aside0.mk ((by rw [hg];exact Nat.ne_of_lt (blk_lt (blk_up BK184.out)) : gb184≠gb187));have n12_:=Aside0.mk ((by rw [hg];exact Nat.ne_of_gt (blk_lt (blk_up BK184.out)) : gb187≠gb184));clear BK176;clear BK181;clear BK184;clear HB;have BK176:=n0_;have BK181:=n1_;have BK184:=n2_;have HB:=n3_;have BK187:=n4_;have GW187:=n5_;have GE187:=n6_;have NB176_187:=n7_;have NB187_176:=n8_;have NB181_187:=n9_;have NB187_181:=n10_;have NB184_187:=n11_;have NB187_184:=n12_;clear n0_ n1_ n2_ n3_ n4_ n5_ n6_ n7_ n8_ n9_ n10_ n11_ n12_;clear hb hbox hg;have hnb126:=NB187_176.out;have hnc126:=NB176_187.out;have hnb127:=NB187_181.out;have hnc127:=NB181_187.out;have hnb128:=NB187_184.out;have hnc128:=NB184_187.out;have hcz129_0 : w125.cell? ⟨gb187,0,none⟩=some (.int .i64 0):=(blk_cell BK187.out 0).trans rfl;have hcz129_1 : w125.cell? ⟨gb187,1,none⟩=some (.string (⟨#[]⟩ : ByteArray)):=(blk_cell BK187.out 1).trans rfl;have hfz129_0:=blk_frozen BK187.out 0;have hfz129_1:=blk_frozen BK187.out 1))
      have n0_ : Aside0 (((w125.setCell ⟨gb187,0,none⟩ (.int .i64 t185)).setCell ⟨gb187,1,none⟩ (.string t186)).heap[gb176]?=some (.cells #[.int .i64 a1_0,.string a1_1,.int .i64 a1_2,.string a1_3,.int .i64 a1_4,.string a1_5] 24 (0,0))):=⟨by (with_reducible repeat (first|refine blk_drewN ?_ _|refine blk_drew ?_|refine blk_alloc ?_ _));refine blk_far ?_ NB176_187.out _;(with_reducible repeat (first|refine blk_drewN ?_ _|refine blk_drew ?_|refine blk_alloc ?_ _));refine blk_far ?_ NB176_187.out _;(with_reducible repeat (first|refine blk_drewN ?_ _|refine blk_drew ?_|refine blk_alloc ?_ _));exact BK176.out⟩
      have n1_ : Aside0 (((w125.setCell ⟨gb187,0,none⟩ (.int .i64 t185)).setCell ⟨gb187,1,none⟩ (.string t186)).heap[gb181]?=some (.cells #[.int .i64 t179,.string t180] 23 (0,0))):=⟨by (with_reducible repeat (first|refine blk_drewN ?_ _|refine blk_drew ?_|refine blk_alloc ?_ _));refine blk_far ?_ NB181_187.out _;(with_reducible repeat (first|refine blk_drewN ?_ _|refine blk_drew ?_|refine blk_alloc ?_ _));refine blk_far ?_ NB181_187.out _;(with_reducible repeat (first|refine blk_drewN ?_ _|refine blk_drew ?_|refine blk_alloc ?_ _));exact BK181.out⟩
      have n2_ : Aside0 (((w125.setCell ⟨gb187,0,none⟩ (.int .i64 t185)).setCell ⟨gb187,1,none⟩ (.string t186)).heap[gb184]?=some (.cells #[.int .i64 t182,.string t183] 23 (0,0))):=⟨by (with_reducible repeat (first|refine blk_drewN ?_ _|refine blk_drew ?_|refine blk_alloc ?_ _));refine blk_far ?_ NB184_187.out _;(with_reducible repeat (first|refine blk_drewN ?_ _|refine blk_drew ?_|refine blk_alloc ?_ _));refine blk_far ?_ NB184_187.out _;(with_reducible repeat (first|refine blk_drewN ?_ _|refine blk_drew ?_|refine blk_alloc ?_ _));exact BK184.out⟩
      have n3_ : Aside0 (((w125.setCell ⟨gb187,0,none⟩ (.int .i64 t185)).setCell ⟨gb187,1,none⟩ (.string t186)).heap[gb187]?=some (.cells #[.int .i64 t185,.string t186] 23 (0,0))):=⟨by (with_reducible repeat (first|refine blk_drewN ?_ _|refine blk_drew ?_|refine blk_alloc ?_ _));refine blk_put (cs:=#[.int .i64 t185,.string (⟨#[]⟩ : ByteArray)]) ?_ 1 _ rfl;(with_reducible repeat (first|refine blk_drewN ?_ _|refine blk_drew ?_|refine blk_alloc ?_ _));refine blk_put (cs:=#[.int .i64 0,.string (⟨#[]⟩ : ByteArray)]) ?_ 0 _ rfl;(with_reducible repeat (first|refine blk_drewN ?_ _|refine blk_drew ?_|refine blk_alloc ?_ _));exact BK187.out⟩
      have n4_ : Aside0 (Below w.heap.size w ((w125.setCell ⟨gb187,0,none⟩ (.int .i64 t185)).setCell ⟨gb187,1,none⟩ (.string t186))):=⟨by repeat (first|(with_reducible first|exact HB.out|apply below_alloc|apply pw_below_drewN|apply below_drew1|refine below_set ?_ GE176.out|refine below_set ?_ GE181.out|refine below_set ?_ GE184.out|refine below_set ?_ GE187.out)|exact HB.out)⟩
      (try clear BK176)
      (try clear BK181)
      (try clear BK184)
      (try clear BK187)
      (try clear HB)
      generalize ((w125.setCell ⟨gb187,0,none⟩ (.int .i64 t185)).setCell ⟨gb187,1,none⟩ (.string t186))=w130 at n0_ n1_ n2_ n3_ n4_ ⊢
      have BK176:=n0_
      have BK181:=n1_
      have BK184:=n2_
      have BK187:=n3_
      have HB:=n4_
      clear n0_ n1_ n2_ n3_ n4_
      have n0_:=Aside0.mk (blk_drew BK176.out)
      have n1_:=Aside0.mk (blk_drew BK181.out)
      have n2_:=Aside0.mk (blk_drew BK184.out)
      have n3_:=Aside0.mk (blk_drew BK187.out)
      have n4_:=Aside0.mk (below_drew1 HB.out)
      clear BK176
      clear BK181
      clear BK184
      clear BK187
      clear HB
      have BK176:=n0_
      have BK181:=n1_
      have BK184:=n2_
      have BK187:=n3_
      have HB:=n4_
      clear n0_ n1_ n2_ n3_ n4_
      refine start_ (n:=9) (S:=fun w'=>w'.cell? ⟨gb181,0,none⟩=some (.int .i64 t179)∧w'.cell? ⟨gb181,1,none⟩=some (.string t180)∧w'.cell? ⟨gb184,0,none⟩=some (.int .i64 t182)∧w'.cell? ⟨gb184,1,none⟩=some (.string t183)∧w'.cell? ⟨gb187,0,none⟩=some (.int .i64 t185)∧w'.cell? ⟨gb187,1,none⟩=some (.string t186)) (ds:=[]) #[false,false,false,false,false,false,false,false,false] (by kernel_rfl) rfl rfl ⟨(blk_cell BK181.out 0).trans rfl,(blk_cell BK181.out 1).trans rfl,(blk_cell BK184.out 0).trans rfl,(blk_cell BK184.out 1).trans rfl,(blk_cell BK187.out 0).trans rfl,(blk_cell BK187.out 1).trans rfl⟩ (fun hHeld=>?_);refine with_tabW thresherlaw03_ValueSums.tab6 thresherlaw03_ValueSums.bits6 (fun HT_ HW_=>?_)
      generalize w130.drew=w131 at BK176 BK181 BK184 BK187 HB hHeld ⊢
      refine pure_ (i:=0) (N:=some 27) (v:=?_) (a':=?_) #[true,false,false,false,false,false,false,false,false] rfl rfl (any_of HT_.out (by kernel_rfl)) (fun _ _ _ h=>h) (Or.inl ⟨by rfl,?_⟩) ?_ ?_
      rotate_left;(intro w';go_simp;with_reducible rfl);rotate_left;(simp only [Act.put,List.setIfInBounds_toArray,List.set_cons_zero,List.set_cons_succ,i64_w,i32_w];rfl)
      refine pure_ (i:=1) (N:=some 28) (v:=?_) (a':=?_) #[true,true,false,false,false,false,false,false,false] rfl rfl (any_of HT_.out (by kernel_rfl)) (fun _ _ _ h=>h) (Or.inl ⟨by rfl,?_⟩) ?_ ?_
      rotate_left;(intro w';go_simp;with_reducible rfl);rotate_left;(simp only [Act.put,List.setIfInBounds_toArray,List.set_cons_zero,List.set_cons_succ,i64_w,i32_w];rfl)
      refine take_ (i:=2) (N:=some 29) (v:=?_) (a':=?_) #[true,true,true,false,false,false,false,false,false] rfl rfl (take_ofW HT_.out HW_.out (by kernel_rfl)) (fun _ _ _ h=>h) (Or.inl ⟨by rfl,?_⟩) hHeld ?_ ?_
      rotate_left;(rintro w' ⟨s0,s1,s2,s3,s4,s5⟩;go_simp;with_reducible rfl);rotate_left;(simp only [Act.put,List.setIfInBounds_toArray,List.set_cons_zero,List.set_cons_succ,i64_w,i32_w];rfl)
      refine take_ (i:=3) (N:=some 30) (v:=?_) (a':=?_) #[true,true,true,true,false,false,false,false,false] rfl rfl (take_ofW HT_.out HW_.out (by kernel_rfl)) (fun _ _ _ h=>h) (Or.inl ⟨by rfl,?_⟩) hHeld ?_ ?_
      rotate_left;(rintro w' ⟨s0,s1,s2,s3,s4,s5⟩;go_simp;with_reducible rfl);rotate_left;(simp only [Act.put,List.setIfInBounds_toArray,List.set_cons_zero,List.set_cons_succ,i64_w,i32_w];rfl)
      refine take_ (i:=5) (N:=some 32) (v:=?_) (a':=?_) #[true,true,true,true,false,true,false,false,false] rfl rfl (take_ofW HT_.out HW_.out (by kernel_rfl)) (fun _ _ _ h=>h) (Or.inl ⟨by rfl,?_⟩) hHeld ?_ ?_
      rotate_left;(rintro w' ⟨s0,s1,s2,s3,s4,s5⟩;go_simp;with_reducible rfl);rotate_left;(simp only [Act.put,List.setIfInBounds_toArray,List.set_cons_zero,List.set_cons_succ,i64_w,i32_w];rfl)
      refine join_ (σ:=Nat) 1 #[true,true,true,true,true,true,true,true,false] (fun s_=>[(31,.agg #[.int .i64 t188,.string t189]),(33,.agg #[.int .i64 t190,.string t191]),(10,.pointer (some ⟨s_,0,none⟩))]) (fun s_ w'=>(w'.cell? ⟨gb181,0,none⟩=some (.int .i64 t179)∧w'.cell? ⟨gb181,1,none⟩=some (.string t180)∧w'.cell? ⟨gb184,0,none⟩=some (.int .i64 t182)∧w'.cell? ⟨gb184,1,none⟩=some (.string t183)∧w'.cell? ⟨gb187,0,none⟩=some (.int .i64 t185)∧w'.cell? ⟨gb187,1,none⟩=some (.string t186))∧(w'.heap[gb176]?=some (.cells #[.int .i64 a1_0,.string a1_1,.int .i64 a1_2,.string a1_3,.int .i64 a1_4,.string a1_5] 24 (0,0)))∧(w'.heap[gb181]?=some (.cells #[.int .i64 t179,.string t180] 23 (0,0)))∧(w'.heap[gb184]?=some (.cells #[.int .i64 t182,.string t183] 23 (0,0)))∧(w'.heap[gb187]?=some (.cells #[.int .i64 t185,.string t186] 23 (0,0)))∧(w'.heap[s_]?=some (.cells #[.int .i64 0,.string (⟨#[]⟩ : ByteArray)] 23 (0,0)))∧(w.heap.size≤s_)∧(w.heap.size≤s_)∧(gb176≠s_)∧(s_≠gb176)∧(gb181≠s_)∧(s_≠gb181)∧(gb184≠s_)∧(s_≠gb184)∧(gb187≠s_)∧(s_≠gb187)∧(Below w.heap.size w w')) ?_ ?_
      rotate_left
      ·intro hCont
       refine two_ (i:=4) (j:=7) (Ni:=some 31) (Nj:=some 10) #[true,true,true,true,true,true,false,false,false] #[true,true,true,true,false,true,false,true,false] rfl rfl rfl rfl (two_of HT_.out (by kernel_rfl)) (by decide) (by decide) (fun K hK=>?_) (fun K hK=>?_)
       ·skip
        refine goes_ Tryd.func14 (by kernel_rfl) rfl #[.int .i64 t178,.agg #[.int .i64 t179,.string t180],.agg #[.int .i64 t182,.string t183]] (by rfl) rfl rfl (by (try simp only [List.map_toArray,List.map_cons,List.map_nil]);first|done|rfl|(simp only [List.length_drop,List.length_take];rfl)) ?_
        with_reducible refine (value_Add.calls k t178 t179 t180 t182 t183 t188 t189 _ A8.out).mono ?_
        rintro e w132 ⟨rfl,hb⟩
        refine ⟨_,rfl,?_⟩
        have n0_:=Aside0.mk (blk_below (blk_up BK176.out) hb)
        have n1_:=Aside0.mk (blk_below (blk_up BK181.out) hb)
        have n2_:=Aside0.mk (blk_below (blk_up BK184.out) hb)
        have n3_:=Aside0.mk (blk_below (blk_up BK187.out) hb)
        have n4_:=Aside0.mk (below_step (below_go HB.out) hb)
        clear BK176
        clear BK181
        clear BK184
        clear BK187
        clear HB
        have BK176:=n0_
        have BK181:=n1_
        have BK184:=n2_
        have BK187:=n3_
        have HB:=n4_
        clear n0_ n1_ n2_ n3_ n4_
        (try clear hb)
        (try clear hb2)
        (try clear hk)
        (try clear hi)
        refine hK.out _ _ ⟨(blk_cell BK181.out 0).trans rfl,(blk_cell BK181.out 1).trans rfl,(blk_cell BK184.out 0).trans rfl,(blk_cell BK184.out 1).trans rfl,(blk_cell BK187.out 0).trans rfl,(blk_cell BK187.out 1).trans rfl⟩ (fun hHeld=>?_)
        clear hK K
        refine norm_ (a':=?_) ?_ ?_
        rotate_left
        ·show Act.put _ (some 31) _=_
         simp only [Act.put,List.setIfInBounds_toArray,List.set_cons_zero,List.set_cons_succ,i64_w,i32_w]
         rfl
        refine two_ (i:=6) (j:=7) (Ni:=some 33) (Nj:=some 10) #[true,true,true,true,true,true,true,false,false] #[true,true,true,true,true,true,false,true,false] rfl rfl rfl rfl (two_of HT_.out (by kernel_rfl)) (by decide) (by decide) (fun K hK=>?_) (fun K hK=>?_)
        ·skip
         refine goes_ Tryd.func14 (by kernel_rfl) rfl #[.int .i64 t178,.agg #[.int .i64 t188,.string t189],.agg #[.int .i64 t185,.string t186]] (by rfl) rfl rfl (by (try simp only [List.map_toArray,List.map_cons,List.map_nil]);first|done|rfl|(simp only [List.length_drop,List.length_take];rfl)) ?_
         with_reducible refine (value_Add.calls k t178 t188 t189 t185 t186 t190 t191 _ A9.out).mono ?_
         rintro e w133 ⟨rfl,hb⟩
         refine ⟨_,rfl,?_⟩
         have n0_:=Aside0.mk (blk_below (blk_up BK176.out) hb)
         have n1_:=Aside0.mk (blk_below (blk_up BK181.out) hb)
         have n2_:=Aside0.mk (blk_below (blk_up BK184.out) hb)
         have n3_:=Aside0.mk (blk_below (blk_up BK187.out) hb)
         have n4_:=Aside0.mk (below_step (below_go HB.out) hb)
         clear BK176
         clear BK181
         clear BK184
         clear BK187
         clear HB
         have BK176:=n0_
         have BK181:=n1_
         have BK184:=n2_
         have BK187:=n3_
         have HB:=n4_
         clear n0_ n1_ n2_ n3_ n4_
         (try clear hb)
         (try clear hb2)
         (try clear hk)
         (try clear hi)
         refine hK.out _ _ ⟨(blk_cell BK181.out 0).trans rfl,(blk_cell BK181.out 1).trans rfl,(blk_cell BK184.out 0).trans rfl,(blk_cell BK184.out 1).trans rfl,(blk_cell BK187.out 0).trans rfl,(blk_cell BK187.out 1).trans rfl⟩ (fun hHeld=>?_)
         clear hK K
         refine norm_ (a':=?_) ?_ ?_
         rotate_left
         ·show Act.put _ (some 33) _=_
          simp only [Act.put,List.setIfInBounds_toArray,List.set_cons_zero,List.set_cons_succ,i64_w,i32_w]
          rfl
         refine one_ (i:=7) (N:=some 10) #[true,true,true,true,true,true,true,true,false] rfl rfl (one_of HT_.out (by kernel_rfl)) (by decide) (fun K hK=>?_)
         refine box_step ?hg (N:=10) ?hd (cs:=#[.int .i64 0,.string (⟨#[]⟩ : ByteArray)]) (t:=23) ?hr ?_;(case hd=>rfl);(case hg=>rfl);(case hr=>first|(go_simp;done)|(go_simp;rfl))
         intro gb192 hg w134 hbox hb
         have n0_:=Aside0.mk (blk_below (blk_up BK176.out) hb)
         have n1_:=Aside0.mk (blk_below (blk_up BK181.out) hb)
         have n2_:=Aside0.mk (blk_below (blk_up BK184.out) hb)
         have n3_:=Aside0.mk (blk_below (blk_up BK187.out) hb)
         have n4_:=Aside0.mk (below_step (below_go HB.out) hb)
         have n5_:=Aside0.mk (hbox)
         have n6_:=Aside0.mk ((by rw [hg];exact (below_size (below_go HB.out)) : w.heap.size≤gb192))
         have n7_:=Aside0.mk ((by rw [hg];exact (below_size (below_go HB.out)) : w.heap.size≤gb192))
         have n8_:=Aside0.mk ((by rw [hg];exact Nat.ne_of_lt (blk_lt (blk_up BK176.out)) : gb176≠gb192))
         have n9_:=Aside0.mk ((by rw [hg];exact Nat.ne_of_gt (blk_lt (blk_up BK176.out)) : gb192≠gb176))
         have n10_:=Aside0.mk ((by rw [hg];exact Nat.ne_of_lt (blk_lt (blk_up BK181.out)) : gb181≠gb192))
         have n11_:=Aside0.mk ((by rw [hg];exact Nat.ne_of_gt (blk_lt (blk_up BK181.out)) : gb192≠gb181))
         have n12_:=Aside0.mk ((by rw [hg];exact Nat.ne_of_lt (blk_lt (blk_up BK184.out)) : gb184≠gb192))
         have n13_:=Aside0.mk ((by rw [hg];exact Nat.ne_of_gt (blk_lt (blk_up BK184.out)) : gb192≠gb184))
         have n14_:=Aside0.mk ((by rw [hg];exact Nat.ne_of_lt (blk_lt (blk_up BK187.out)) : gb187≠gb192))
         have n15_:=Aside0.mk ((by rw [hg];exact Nat.ne_of_gt (blk_lt (blk_up BK187.out)) : gb192≠gb187))
         clear BK176
         clear BK181
         clear BK184
         clear BK187
         clear HB
         have BK176:=n0_
         have BK181:=n1_
         have BK184:=n2_
         have BK187:=n3_
         have HB:=n4_
         have BK192:=n5_
         have GW192:=n6_
         have GE192:=n7_
         have NB176_192:=n8_
         have NB192_176:=n9_
         have NB181_192:=n10_
         have NB192_181:=n11_
         have NB184_192:=n12_
         have NB192_184:=n13_
         have NB187_192:=n14_
         have NB192_187:=n15_
         clear n0_ n1_ n2_ n3_ n4_ n5_ n6_ n7_ n8_ n9_ n10_ n11_ n12_ n13_ n14_ n15_
         clear hb hbox hg
         refine hK.out _ _ ⟨(blk_cell BK181.out 0).trans rfl,(blk_cell BK181.out 1).trans rfl,(blk_cell BK184.out 0).trans rfl,(blk_cell BK184.out 1).trans rfl,(blk_cell BK187.out 0).trans rfl,(blk_cell BK187.out 1).trans rfl⟩ (fun hHeld=>?_)
         clear hK K
         refine norm_ (a':=?_) ?_ ?_
         rotate_left
         ·show Act.put _ (some 10) _=_
          simp only [Act.put,List.setIfInBounds_toArray,List.set_cons_zero,List.set_cons_succ,i64_w,i32_w]
          rfl
         exact norm_ (by simp only [putAll,Act.put,List.setIfInBounds_toArray,List.set_cons_zero,List.set_cons_succ]) (hCont (gb192) _ ⟨hHeld,(blk_up BK176.out),(blk_up BK181.out),(blk_up BK184.out),(blk_up BK187.out),(blk_up BK192.out),GW192.out,GE192.out,NB176_192.out,NB192_176.out,NB181_192.out,NB192_181.out,NB184_192.out,NB192_184.out,NB187_192.out,NB192_187.out,(below_go HB.out)⟩)
        ·skip
         refine box_step ?hg (N:=10) ?hd (cs:=#[.int .i64 0,.string (⟨#[]⟩ : ByteArray)]) (t:=23) ?hr ?_;(case hd=>rfl);(case hg=>rfl);(case hr=>first|(go_simp;done)|(go_simp;rfl))
         intro gb192 hg w133 hbox hb
         have n0_:=Aside0.mk (blk_below (blk_up BK176.out) hb)
         have n1_:=Aside0.mk (blk_below (blk_up BK181.out) hb)
         have n2_:=Aside0.mk (blk_below (blk_up BK184.out) hb)
         have n3_:=Aside0.mk (blk_below (blk_up BK187.out) hb)
         have n4_:=Aside0.mk (below_step (below_go HB.out) hb)
         have n5_:=Aside0.mk (hbox)
         have n6_:=Aside0.mk ((by rw [hg];exact (below_size (below_go HB.out)) : w.heap.size≤gb192))
         have n7_:=Aside0.mk ((by rw [hg];exact (below_size (below_go HB.out)) : w.heap.size≤gb192))
         have n8_:=Aside0.mk ((by rw [hg];exact Nat.ne_of_lt (blk_lt (blk_up BK176.out)) : gb176≠gb192))
         have n9_:=Aside0.mk ((by rw [hg];exact Nat.ne_of_gt (blk_lt (blk_up BK176.out)) : gb192≠gb176))
         have n10_:=Aside0.mk ((by rw [hg];exact Nat.ne_of_lt (blk_lt (blk_up BK181.out)) : gb181≠gb192))
         have n11_:=Aside0.mk ((by rw [hg];exact Nat.ne_of_gt (blk_lt (blk_up BK181.out)) : gb192≠gb181))
         have n12_:=Aside0.mk ((by rw [hg];exact Nat.ne_of_lt (blk_lt (blk_up BK184.out)) : gb184≠gb192))
         have n13_:=Aside0.mk ((by rw [hg];exact Nat.ne_of_gt (blk_lt (blk_up BK184.out)) : gb192≠gb184))
         have n14_:=Aside0.mk ((by rw [hg];exact Nat.ne_of_lt (blk_lt (blk_up BK187.out)) : gb187≠gb192))
         have n15_:=Aside0.mk ((by rw [hg];exact Nat.ne_of_gt (blk_lt (blk_up BK187.out)) : gb192≠gb187))
         clear BK176
         clear BK181
         clear BK184
         clear BK187
         clear HB
         have BK176:=n0_
         have BK181:=n1_
         have BK184:=n2_
         have BK187:=n3_
         have HB:=n4_
         have BK192:=n5_
         have GW192:=n6_
         have GE192:=n7_
         have NB176_192:=n8_
         have NB192_176:=n9_
         have NB181_192:=n10_
         have NB192_181:=n11_
         have NB184_192:=n12_
         have NB192_184:=n13_
         have NB187_192:=n14_
         have NB192_187:=n15_
         clear n0_ n1_ n2_ n3_ n4_ n5_ n6_ n7_ n8_ n9_ n10_ n11_ n12_ n13_ n14_ n15_
         clear hb hbox hg
         refine hK.out _ _ ⟨(blk_cell BK181.out 0).trans rfl,(blk_cell BK181.out 1).trans rfl,(blk_cell BK184.out 0).trans rfl,(blk_cell BK184.out 1).trans rfl,(blk_cell BK187.out 0).trans rfl,(blk_cell BK187.out 1).trans rfl⟩ (fun hHeld=>?_)
         clear hK K
         refine norm_ (a':=?_) ?_ ?_
         rotate_left
         ·show Act.put _ (some 10) _=_
          simp only [Act.put,List.setIfInBounds_toArray,List.set_cons_zero,List.set_cons_succ,i64_w,i32_w]
          rfl
         refine one_ (i:=6) (N:=some 33) #[true,true,true,true,true,true,true,true,false] rfl rfl (one_of HT_.out (by kernel_rfl)) (by decide) (fun K hK=>?_)
         refine goes_ Tryd.func14 (by kernel_rfl) rfl #[.int .i64 t178,.agg #[.int .i64 t188,.string t189],.agg #[.int .i64 t185,.string t186]] (by rfl) rfl rfl (by (try simp only [List.map_toArray,List.map_cons,List.map_nil]);first|done|rfl|(simp only [List.length_drop,List.length_take];rfl)) ?_
         with_reducible refine (value_Add.calls k t178 t188 t189 t185 t186 t190 t191 _ A9.out).mono ?_
         rintro e w134 ⟨rfl,hb⟩
         refine ⟨_,rfl,?_⟩
         have n0_:=Aside0.mk (blk_below (blk_up BK176.out) hb)
         have n1_:=Aside0.mk (blk_below (blk_up BK181.out) hb)
         have n2_:=Aside0.mk (blk_below (blk_up BK184.out) hb)
         have n3_:=Aside0.mk (blk_below (blk_up BK187.out) hb)
         have n4_:=Aside0.mk (blk_below (g:=gb192) (o:=.cells #[.int .i64 0,.string (⟨#[]⟩ : ByteArray)] 23 (0,0)) (blk_up BK192.out) hb)
         have n5_:=Aside0.mk (below_step (below_go HB.out) hb)
         clear BK176
         clear BK181
         clear BK184
         clear BK187
         clear BK192
         clear HB
         have BK176:=n0_
         have BK181:=n1_
         have BK184:=n2_
         have BK187:=n3_
         have BK192:=n4_
         have HB:=n5_
         clear n0_ n1_ n2_ n3_ n4_ n5_
         (try clear hb)
         (try clear hb2)
         (try clear hk)
         (try clear hi)
         refine hK.out _ _ ⟨(blk_cell BK181.out 0).trans rfl,(blk_cell BK181.out 1).trans rfl,(blk_cell BK184.out 0).trans rfl,(blk_cell BK184.out 1).trans rfl,(blk_cell BK187.out 0).trans rfl,(blk_cell BK187.out 1).trans rfl⟩ (fun hHeld=>?_)
         clear hK K
         refine norm_ (a':=?_) ?_ ?_
         rotate_left
         ·show Act.put _ (some 33) _=_
          simp only [Act.put,List.setIfInBounds_toArray,List.set_cons_zero,List.set_cons_succ,i64_w,i32_w]
          rfl
         exact norm_ (by simp only [putAll,Act.put,List.setIfInBounds_toArray,List.set_cons_zero,List.set_cons_succ]) (hCont (gb192) _ ⟨hHeld,(blk_up BK176.out),(blk_up BK181.out),(blk_up BK184.out),(blk_up BK187.out),(blk_up BK192.out),GW192.out,GE192.out,NB176_192.out,NB192_176.out,NB181_192.out,NB192_181.out,NB184_192.out,NB192_184.out,NB187_192.out,NB192_187.out,(below_go HB.out)⟩)
       ·skip
        refine box_step ?hg (N:=10) ?hd (cs:=#[.int .i64 0,.string (⟨#[]⟩ : ByteArray)]) (t:=23) ?hr ?_;(case hd=>rfl);(case hg=>rfl);(case hr=>first|(go_simp;done)|(go_simp;rfl))
        intro gb192 hg w132 hbox hb
        have n0_:=Aside0.mk (blk_below (blk_up BK176.out) hb)
        have n1_:=Aside0.mk (blk_below (blk_up BK181.out) hb)
        have n2_:=Aside0.mk (blk_below (blk_up BK184.out) hb)
        have n3_:=Aside0.mk (blk_below (blk_up BK187.out) hb)
        have n4_:=Aside0.mk (below_step (below_go HB.out) hb)
        have n5_:=Aside0.mk (hbox)
        have n6_:=Aside0.mk ((by rw [hg];exact (below_size (below_go HB.out)) : w.heap.size≤gb192))
        have n7_:=Aside0.mk ((by rw [hg];exact (below_size (below_go HB.out)) : w.heap.size≤gb192))
        have n8_:=Aside0.mk ((by rw [hg];exact Nat.ne_of_lt (blk_lt (blk_up BK176.out)) : gb176≠gb192))
        have n9_:=Aside0.mk ((by rw [hg];exact Nat.ne_of_gt (blk_lt (blk_up BK176.out)) : gb192≠gb176))
        have n10_:=Aside0.mk ((by rw [hg];exact Nat.ne_of_lt (blk_lt (blk_up BK181.out)) : gb181≠gb192))
        have n11_:=Aside0.mk ((by rw [hg];exact Nat.ne_of_gt (blk_lt (blk_up BK181.out)) : gb192≠gb181))
        have n12_:=Aside0.mk ((by rw [hg];exact Nat.ne_of_lt (blk_lt (blk_up BK184.out)) : gb184≠gb192))
        have n13_:=Aside0.mk ((by rw [hg];exact Nat.ne_of_gt (blk_lt (blk_up BK184.out)) : gb192≠gb184))
        have n14_:=Aside0.mk ((by rw [hg];exact Nat.ne_of_lt (blk_lt (blk_up BK187.out)) : gb187≠gb192))
        have n15_:=Aside0.mk ((by rw [hg];exact Nat.ne_of_gt (blk_lt (blk_up BK187.out)) : gb192≠gb187))
        clear BK176
        clear BK181
        clear BK184
        clear BK187
        clear HB
        have BK176:=n0_
        have BK181:=n1_
        have BK184:=n2_
        have BK187:=n3_
        have HB:=n4_
        have BK192:=n5_
        have GW192:=n6_
        have GE192:=n7_
        have NB176_192:=n8_
        have NB192_176:=n9_
        have NB181_192:=n10_
        have NB192_181:=n11_
        have NB184_192:=n12_
        have NB192_184:=n13_
        have NB187_192:=n14_
        have NB192_187:=n15_
        clear n0_ n1_ n2_ n3_ n4_ n5_ n6_ n7_ n8_ n9_ n10_ n11_ n12_ n13_ n14_ n15_
        clear hb hbox hg
        refine hK.out _ _ ⟨(blk_cell BK181.out 0).trans rfl,(blk_cell BK181.out 1).trans rfl,(blk_cell BK184.out 0).trans rfl,(blk_cell BK184.out 1).trans rfl,(blk_cell BK187.out 0).trans rfl,(blk_cell BK187.out 1).trans rfl⟩ (fun hHeld=>?_)
        clear hK K
        refine norm_ (a':=?_) ?_ ?_
        rotate_left
        ·show Act.put _ (some 10) _=_
         simp only [Act.put,List.setIfInBounds_toArray,List.set_cons_zero,List.set_cons_succ,i64_w,i32_w]
         rfl
        refine one_ (i:=4) (N:=some 31) #[true,true,true,true,true,true,false,true,false] rfl rfl (one_of HT_.out (by kernel_rfl)) (by decide) (fun K hK=>?_)
        refine goes_ Tryd.func14 (by kernel_rfl) rfl #[.int .i64 t178,.agg #[.int .i64 t179,.string t180],.agg #[.int .i64 t182,.string t183]] (by rfl) rfl rfl (by (try simp only [List.map_toArray,List.map_cons,List.map_nil]);first|done|rfl|(simp only [List.length_drop,List.length_take];rfl)) ?_
        with_reducible refine (value_Add.calls k t178 t179 t180 t182 t183 t188 t189 _ A8.out).mono ?_
        rintro e w133 ⟨rfl,hb⟩
        refine ⟨_,rfl,?_⟩
        have n0_:=Aside0.mk (blk_below (blk_up BK176.out) hb)
        have n1_:=Aside0.mk (blk_below (blk_up BK181.out) hb)
        have n2_:=Aside0.mk (blk_below (blk_up BK184.out) hb)
        have n3_:=Aside0.mk (blk_below (blk_up BK187.out) hb)
        have n4_:=Aside0.mk (blk_below (g:=gb192) (o:=.cells #[.int .i64 0,.string (⟨#[]⟩ : ByteArray)] 23 (0,0)) (blk_up BK192.out) hb)
        have n5_:=Aside0.mk (below_step (below_go HB.out) hb)
        clear BK176
        clear BK181
        clear BK184
        clear BK187
        clear BK192
        clear HB
        have BK176:=n0_
        have BK181:=n1_
        have BK184:=n2_
        have BK187:=n3_
        have BK192:=n4_
        have HB:=n5_
        clear n0_ n1_ n2_ n3_ n4_ n5_
        (try clear hb)
        (try clear hb2)
        (try clear hk)
        (try clear hi)
        refine hK.out _ _ ⟨(blk_cell BK181.out 0).trans rfl,(blk_cell BK181.out 1).trans rfl,(blk_cell BK184.out 0).trans rfl,(blk_cell BK184.out 1).trans rfl,(blk_cell BK187.out 0).trans rfl,(blk_cell BK187.out 1).trans rfl⟩ (fun hHeld=>?_)
        clear hK K
        refine norm_ (a':=?_) ?_ ?_
        rotate_left
        ·show Act.put _ (some 31) _=_
         simp only [Act.put,List.setIfInBounds_toArray,List.set_cons_zero,List.set_cons_succ,i64_w,i32_w]
         rfl
        refine one_ (i:=6) (N:=some 33) #[true,true,true,true,true,true,true,true,false] rfl rfl (one_of HT_.out (by kernel_rfl)) (by decide) (fun K hK=>?_)
        refine goes_ Tryd.func14 (by kernel_rfl) rfl #[.int .i64 t178,.agg #[.int .i64 t188,.string t189],.agg #[.int .i64 t185,.string t186]] (by rfl) rfl rfl (by (try simp only [List.map_toArray,List.map_cons,List.map_nil]);first|done|rfl|(simp only [List.length_drop,List.length_take];rfl)) ?_
        with_reducible refine (value_Add.calls k t178 t188 t189 t185 t186 t190 t191 _ A9.out).mono ?_
        rintro e w134 ⟨rfl,hb⟩
        refine ⟨_,rfl,?_⟩
        have n0_:=Aside0.mk (blk_below (blk_up BK176.out) hb)
        have n1_:=Aside0.mk (blk_below (blk_up BK181.out) hb)
        have n2_:=Aside0.mk (blk_below (blk_up BK184.out) hb)
        have n3_:=Aside0.mk (blk_below (blk_up BK187.out) hb)
        have n4_:=Aside0.mk (blk_below (g:=gb192) (o:=.cells #[.int .i64 0,.string (⟨#[]⟩ : ByteArray)] 23 (0,0)) (blk_up BK192.out) hb)
        have n5_:=Aside0.mk (below_step (below_go HB.out) hb)
        clear BK176
        clear BK181
        clear BK184
        clear BK187
        clear BK192
        clear HB
        have BK176:=n0_
        have BK181:=n1_
        have BK184:=n2_
        have BK187:=n3_
        have BK192:=n4_
        have HB:=n5_
        clear n0_ n1_ n2_ n3_ n4_ n5_
        (try clear hb)
        (try clear hb2)
        (try clear hk)
        (try clear hi)
        refine hK.out _ _ ⟨(blk_cell BK181.out 0).trans rfl,(blk_cell BK181.out 1).trans rfl,(blk_cell BK184.out 0).trans rfl,(blk_cell BK184.out 1).trans rfl,(blk_cell BK187.out 0).trans rfl,(blk_cell BK187.out 1).trans rfl⟩ (fun hHeld=>?_)
        clear hK K
        refine norm_ (a':=?_) ?_ ?_
        rotate_left
        ·show Act.put _ (some 33) _=_
         simp only [Act.put,List.setIfInBounds_toArray,List.set_cons_zero,List.set_cons_succ,i64_w,i32_w]
         rfl
        exact norm_ (by simp only [putAll,Act.put,List.setIfInBounds_toArray,List.set_cons_zero,List.set_cons_succ]) (hCont (gb192) _ ⟨hHeld,(blk_up BK176.out),(blk_up BK181.out),(blk_up BK184.out),(blk_up BK187.out),(blk_up BK192.out),GW192.out,GE192.out,NB176_192.out,NB192_176.out,NB181_192.out,NB192_181.out,NB184_192.out,NB192_184.out,NB187_192.out,NB192_187.out,(below_go HB.out)⟩)
      rintro gb192 w135 ⟨hS_,h0_,h1_,h2_,h3_,h4_,h5_,h6_,h7_,h8_,h9_,h10_,h11_,h12_,h13_,h14_,h15_⟩
      have n0_ : Aside0 (w135.heap[gb176]?=some (.cells #[.int .i64 a1_0,.string a1_1,.int .i64 a1_2,.string a1_3,.int .i64 a1_4,.string a1_5] 24 (0,0))):=⟨h0_⟩
      have n1_ : Aside0 (w135.heap[gb181]?=some (.cells #[.int .i64 t179,.string t180] 23 (0,0))):=⟨h1_⟩
      have n2_ : Aside0 (w135.heap[gb184]?=some (.cells #[.int .i64 t182,.string t183] 23 (0,0))):=⟨h2_⟩
      have n3_ : Aside0 (w135.heap[gb187]?=some (.cells #[.int .i64 t185,.string t186] 23 (0,0))):=⟨h3_⟩
      have n4_ : Aside0 (w135.heap[gb192]?=some (.cells #[.int .i64 0,.string (⟨#[]⟩ : ByteArray)] 23 (0,0))):=⟨h4_⟩
      have n5_ : Aside0 (w.heap.size≤gb192):=⟨h5_⟩
      have n6_ : Aside0 (w.heap.size≤gb192):=⟨h6_⟩
      have n7_ : Aside0 (gb176≠gb192):=⟨h7_⟩
      have n8_ : Aside0 (gb192≠gb176):=⟨h8_⟩
      have n9_ : Aside0 (gb181≠gb192):=⟨h9_⟩
      have n10_ : Aside0 (gb192≠gb181):=⟨h10_⟩
      have n11_ : Aside0 (gb184≠gb192):=⟨h11_⟩
      have n12_ : Aside0 (gb192≠gb184):=⟨h12_⟩
      have n13_ : Aside0 (gb187≠gb192):=⟨h13_⟩
      have n14_ : Aside0 (gb192≠gb187):=⟨h14_⟩
      have n15_ : Aside0 (Below w.heap.size w w135):=⟨h15_⟩
      clear BK176
      clear BK181
      clear BK184
      clear BK187
      clear HB
      clear h0_ h1_ h2_ h3_ h4_ h5_ h6_ h7_ h8_ h9_ h10_ h11_ h12_ h13_ h14_ h15_
      have BK176:=n0_
      have BK181:=n1_
      have BK184:=n2_
      have BK187:=n3_
      have BK192:=n4_
      have GW192:=n5_
      have GE192:=n6_
      have NB176_192:=n7_
      have NB192_176:=n8_
      have NB181_192:=n9_
      have NB192_181:=n10_
      have NB184_192:=n11_
      have NB192_184:=n12_
      have NB187_192:=n13_
      have NB192_187:=n14_
      have HB:=n15_
      clear n0_ n1_ n2_ n3_ n4_ n5_ n6_ n7_ n8_ n9_ n10_ n11_ n12_ n13_ n14_ n15_
      have hHeld : w135.cell? ⟨gb181,0,none⟩=some (.int .i64 t179)∧w135.cell? ⟨gb181,1,none⟩=some (.string t180)∧w135.cell? ⟨gb184,0,none⟩=some (.int .i64 t182)∧w135.cell? ⟨gb184,1,none⟩=some (.string t183)∧w135.cell? ⟨gb187,0,none⟩=some (.int .i64 t185)∧w135.cell? ⟨gb187,1,none⟩=some (.string t186):=hS_
      refine norm_ (a':=?_) ?_ ?_
      rotate_left
      ·simp only [putAll,Act.put,List.setIfInBounds_toArray,List.set_cons_zero,List.set_cons_succ]
       rfl
      refine one_ (i:=8) (N:=none) #[true,true,true,true,true,true,true,true,true] rfl rfl (one_of HT_.out (by kernel_rfl)) (by decide) (fun K hK=>?_)
      have hs136 : w135.cell? ⟨gb192,0,none⟩=some (.int .i64 0):=(blk_cell BK192.out 0).trans rfl
      have hfs136:=blk_frozen BK192.out 0
      have hns136_0:=NB176_192.out
      have hns136_1:=NB181_192.out
      have hns136_2:=NB184_192.out
      have hns136_3:=NB187_192.out
      have hms136_0:=NB192_176.out
      have hms136_1:=NB192_181.out
      have hms136_2:=NB192_184.out
      have hms136_3:=NB192_187.out
      have hs137 : w135.cell? ⟨gb192,1,none⟩=some (.string (⟨#[]⟩ : ByteArray)):=(blk_cell BK192.out 1).trans rfl
      have hfs137:=blk_frozen BK192.out 1
      have hns137_0:=NB176_192.out
      have hns137_1:=NB181_192.out
      have hns137_2:=NB184_192.out
      have hns137_3:=NB187_192.out
      have hms137_0:=NB192_176.out
      have hms137_1:=NB192_181.out
      have hms137_2:=NB192_184.out
      have hms137_3:=NB192_187.out
      refine skip_ (w1:=?_) (by rfl) rfl ?_ ?_
      rotate_left
      ·go_simp
       rfl
      refine hK.out _ _ ⟨((cell_far (p:=⟨gb192,_,none⟩) NB181_192.out _).trans (((cell_far (p:=⟨gb192,_,none⟩) NB181_192.out _).trans (hHeld.1)))),((cell_far (p:=⟨gb192,_,none⟩) NB181_192.out _).trans (((cell_far (p:=⟨gb192,_,none⟩) NB181_192.out _).trans (hHeld.2.1)))),((cell_far (p:=⟨gb192,_,none⟩) NB184_192.out _).trans (((cell_far (p:=⟨gb192,_,none⟩) NB184_192.out _).trans (hHeld.2.2.1)))),((cell_far (p:=⟨gb192,_,none⟩) NB184_192.out _).trans (((cell_far (p:=⟨gb192,_,none⟩) NB184_192.out _).trans (hHeld.2.2.2.1)))),((cell_far (p:=⟨gb192,_,none⟩) NB187_192.out _).trans (((cell_far (p:=⟨gb192,_,none⟩) NB187_192.out _).trans (hHeld.2.2.2.2.1)))),((cell_far (p:=⟨gb192,_,none⟩) NB187_192.out _).trans (((cell_far (p:=⟨gb192,_,none⟩) NB187_192.out _).trans (hHeld.2.2.2.2.2))))⟩ (fun hHeld=>?_)
      clear hK K
      refine done_ (done_of HT_.out (by kernel_rfl)) ?_
      (try clear hHeld)
      try go_wp2
      have n0_ : Aside0 (((w135.setCell ⟨gb192,0,none⟩ (.int .i64 t190)).setCell ⟨gb192,1,none⟩ (.string t191)).heap[gb176]?=some (.cells #[.int .i64 a1_0,.string a1_1,.int .i64 a1_2,.string a1_3,.int .i64 a1_4,.string a1_5] 24 (0,0))):=⟨by (with_reducible repeat (first|refine blk_drewN ?_ _|refine blk_drew ?_|refine blk_alloc ?_ _));refine blk_far ?_ NB176_192.out _;(with_reducible repeat (first|refine blk_drewN ?_ _|refine blk_drew ?_|refine blk_alloc ?_ _));refine blk_far ?_ NB176_192.out _;(with_reducible repeat (first|refine blk_drewN ?_ _|refine blk_drew ?_|refine blk_alloc ?_ _));exact BK176.out⟩
      have n1_ : Aside0 (((w135.setCell ⟨gb192,0,none⟩ (.int .i64 t190)).setCell ⟨gb192,1,none⟩ (.string t191)).heap[gb181]?=some (.cells #[.int .i64 t179,.string t180] 23 (0,0))):=⟨by (with_reducible repeat (first|refine blk_drewN ?_ _|refine blk_drew ?_|refine blk_alloc ?_ _));refine blk_far ?_ NB181_192.out _;(with_reducible repeat (first|refine blk_drewN ?_ _|refine blk_drew ?_|refine blk_alloc ?_ _));refine blk_far ?_ NB181_192.out _;(with_reducible repeat (first|refine blk_drewN ?_ _|refine blk_drew ?_|refine blk_alloc ?_ _));exact BK181.out⟩
      have n2_ : Aside0 (((w135.setCell ⟨gb192,0,none⟩ (.int .i64 t190)).setCell ⟨gb192,1,none⟩ (.string t191)).heap[gb184]?=some (.cells #[.int .i64 t182,.string t183] 23 (0,0))):=⟨by (with_reducible repeat (first|refine blk_drewN ?_ _|refine blk_drew ?_|refine blk_alloc ?_ _));refine blk_far ?_ NB184_192.out _;(with_reducible repeat (first|refine blk_drewN ?_ _|refine blk_drew ?_|refine blk_alloc ?_ _));refine blk_far ?_ NB184_192.out _;(with_reducible repeat (first|refine blk_drewN ?_ _|refine blk_drew ?_|refine blk_alloc ?_ _));exact BK184.out⟩
      have n3_ : Aside0 (((w135.setCell ⟨gb192,0,none⟩ (.int .i64 t190)).setCell ⟨gb192,1,none⟩ (.string t191)).heap[gb187]?=some (.cells #[.int .i64 t185,.string t186] 23 (0,0))):=⟨by (with_reducible repeat (first|refine blk_drewN ?_ _|refine blk_drew ?_|refine blk_alloc ?_ _));refine blk_far ?_ NB187_192.out _;(with_reducible repeat (first|refine blk_drewN ?_ _|refine blk_drew ?_|refine blk_alloc ?_ _));refine blk_far ?_ NB187_192.out _;(with_reducible repeat (first|refine blk_drewN ?_ _|refine blk_drew ?_|refine blk_alloc ?_ _));exact BK187.out⟩
      have n4_ : Aside0 (((w135.setCell ⟨gb192,0,none⟩ (.int .i64 t190)).setCell ⟨gb192,1,none⟩ (.string t191)).heap[gb192]?=some (.cells #[.int .i64 t190,.string t191] 23 (0,0))):=⟨by (with_reducible repeat (first|refine blk_drewN ?_ _|refine blk_drew ?_|refine blk_alloc ?_ _));refine blk_put (cs:=#[.int .i64 t190,.string (⟨#[]⟩ : ByteArray)]) ?_ 1 _ rfl;(with_reducible repeat (first|refine blk_drewN ?_ _|refine blk_drew ?_|refine blk_alloc ?_ _));refine blk_put (cs:=#[.int .i64 0,.string (⟨#[]⟩ : ByteArray)]) ?_ 0 _ rfl;(with_reducible repeat (first|refine blk_drewN ?_ _|refine blk_drew ?_|refine blk_alloc ?_ _));exact BK192.out⟩
      have n5_ : Aside0 (Below w.heap.size w ((w135.setCell ⟨gb192,0,none⟩ (.int .i64 t190)).setCell ⟨gb192,1,none⟩ (.string t191))):=⟨by repeat (first|(with_reducible first|exact HB.out|apply below_alloc|apply pw_below_drewN|apply below_drew1|refine below_set ?_ GE176.out|refine below_set ?_ GE181.out|refine below_set ?_ GE184.out|refine below_set ?_ GE187.out|refine below_set ?_ GE192.out)|exact HB.out)⟩
      (try clear BK176)
      (try clear BK181)
      (try clear BK184)
      (try clear BK187)
      (try clear BK192)
      (try clear HB)
      generalize ((w135.setCell ⟨gb192,0,none⟩ (.int .i64 t190)).setCell ⟨gb192,1,none⟩ (.string t191))=w138 at n0_ n1_ n2_ n3_ n4_ n5_ ⊢
      have BK176:=n0_
      have BK181:=n1_
      have BK184:=n2_
      have BK187:=n3_
      have BK192:=n4_
      have HB:=n5_
      clear n0_ n1_ n2_ n3_ n4_ n5_
      have n0_:=Aside0.mk (blk_drew BK176.out)
      have n1_:=Aside0.mk (blk_drew BK181.out)
      have n2_:=Aside0.mk (blk_drew BK184.out)
      have n3_:=Aside0.mk (blk_drew BK187.out)
      have n4_:=Aside0.mk (blk_drew BK192.out)
      have n5_:=Aside0.mk (below_drew1 HB.out)
      clear BK176
      clear BK181
      clear BK184
      clear BK187
      clear BK192
      clear HB
      have BK176:=n0_
      have BK181:=n1_
      have BK184:=n2_
      have BK187:=n3_
      have BK192:=n4_
      have HB:=n5_
      clear n0_ n1_ n2_ n3_ n4_ n5_
      refine start_ (n:=9) (S:=fun w'=>w'.cell? ⟨gb181,0,none⟩=some (.int .i64 t179)∧w'.cell? ⟨gb181,1,none⟩=some (.string t180)∧w'.cell? ⟨gb184,0,none⟩=some (.int .i64 t182)∧w'.cell? ⟨gb184,1,none⟩=some (.string t183)∧w'.cell? ⟨gb187,0,none⟩=some (.int .i64 t185)∧w'.cell? ⟨gb187,1,none⟩=some (.string t186)) (ds:=[]) #[false,false,false,false,false,false,false,false,false] (by kernel_rfl) rfl rfl ⟨(blk_cell BK181.out 0).trans rfl,(blk_cell BK181.out 1).trans rfl,(blk_cell BK184.out 0).trans rfl,(blk_cell BK184.out 1).trans rfl,(blk_cell BK187.out 0).trans rfl,(blk_cell BK187.out 1).trans rfl⟩ (fun hHeld=>?_);refine with_tabW thresherlaw03_ValueSums.tab7 thresherlaw03_ValueSums.bits7 (fun HT_ HW_=>?_)
      generalize w138.drew=w139 at BK176 BK181 BK184 BK187 BK192 HB hHeld ⊢
      refine pure_ (i:=0) (N:=some 34) (v:=?_) (a':=?_) #[true,false,false,false,false,false,false,false,false] rfl rfl (any_of HT_.out (by kernel_rfl)) (fun _ _ _ h=>h) (Or.inl ⟨by rfl,?_⟩) ?_ ?_
      rotate_left;(intro w';go_simp;with_reducible rfl);rotate_left;(simp only [Act.put,List.setIfInBounds_toArray,List.set_cons_zero,List.set_cons_succ,i64_w,i32_w];rfl)
      refine pure_ (i:=2) (N:=some 36) (v:=?_) (a':=?_) #[true,false,true,false,false,false,false,false,false] rfl rfl (any_of HT_.out (by kernel_rfl)) (fun _ _ _ h=>h) (Or.inl ⟨by rfl,?_⟩) ?_ ?_
      rotate_left;(intro w';go_simp;with_reducible rfl);rotate_left;(simp only [Act.put,List.setIfInBounds_toArray,List.set_cons_zero,List.set_cons_succ,i64_w,i32_w];rfl)
      refine take_ (i:=1) (N:=some 35) (v:=?_) (a':=?_) #[true,true,true,false,false,false,false,false,false] rfl rfl (take_ofW HT_.out HW_.out (by kernel_rfl)) (fun _ _ _ h=>h) (Or.inl ⟨by rfl,?_⟩) hHeld ?_ ?_
      rotate_left;(rintro w' ⟨s0,s1,s2,s3,s4,s5⟩;go_simp;with_reducible rfl);rotate_left;(simp only [Act.put,List.setIfInBounds_toArray,List.set_cons_zero,List.set_cons_succ,i64_w,i32_w];rfl)
      refine take_ (i:=3) (N:=some 37) (v:=?_) (a':=?_) #[true,true,true,true,false,false,false,false,false] rfl rfl (take_ofW HT_.out HW_.out (by kernel_rfl)) (fun _ _ _ h=>h) (Or.inl ⟨by rfl,?_⟩) hHeld ?_ ?_
      rotate_left;(rintro w' ⟨s0,s1,s2,s3,s4,s5⟩;go_simp;with_reducible rfl);rotate_left;(simp only [Act.put,List.setIfInBounds_toArray,List.set_cons_zero,List.set_cons_succ,i64_w,i32_w];rfl)
      refine take_ (i:=4) (N:=some 38) (v:=?_) (a':=?_) #[true,true,true,true,true,false,false,false,false] rfl rfl (take_ofW HT_.out HW_.out (by kernel_rfl)) (fun _ _ _ h=>h) (Or.inl ⟨by rfl,?_⟩) hHeld ?_ ?_
      rotate_left;(rintro w' ⟨s0,s1,s2,s3,s4,s5⟩;go_simp;with_reducible rfl);rotate_left;(simp only [Act.put,List.setIfInBounds_toArray,List.set_cons_zero,List.set_cons_succ,i64_w,i32_w];rfl)
      refine join_ (σ:=Nat) 1 #[true,true,true,true,true,true,true,true,false] (fun s_=>[(39,.agg #[.int .i64 t193,.string t194]),(40,.agg #[.int .i64 t195,.string t196]),(11,.pointer (some ⟨s_,0,none⟩))]) (fun s_ w'=>(w'.cell? ⟨gb181,0,none⟩=some (.int .i64 t179)∧w'.cell? ⟨gb181,1,none⟩=some (.string t180)∧w'.cell? ⟨gb184,0,none⟩=some (.int .i64 t182)∧w'.cell? ⟨gb184,1,none⟩=some (.string t183)∧w'.cell? ⟨gb187,0,none⟩=some (.int .i64 t185)∧w'.cell? ⟨gb187,1,none⟩=some (.string t186))∧(w'.heap[gb176]?=some (.cells #[.int .i64 a1_0,.string a1_1,.int .i64 a1_2,.string a1_3,.int .i64 a1_4,.string a1_5] 24 (0,0)))∧(w'.heap[gb181]?=some (.cells #[.int .i64 t179,.string t180] 23 (0,0)))∧(w'.heap[gb184]?=some (.cells #[.int .i64 t182,.string t183] 23 (0,0)))∧(w'.heap[gb187]?=some (.cells #[.int .i64 t185,.string t186] 23 (0,0)))∧(w'.heap[gb192]?=some (.cells #[.int .i64 t190,.string t191] 23 (0,0)))∧(w'.heap[s_]?=some (.cells #[.int .i64 0,.string (⟨#[]⟩ : ByteArray)] 23 (0,0)))∧(w.heap.size≤s_)∧(w.heap.size≤s_)∧(gb176≠s_)∧(s_≠gb176)∧(gb181≠s_)∧(s_≠gb181)∧(gb184≠s_)∧(s_≠gb184)∧(gb187≠s_)∧(s_≠gb187)∧(gb192≠s_)∧(s_≠gb192)∧(Below w.heap.size w w')) ?_ ?_
      rotate_left
      ·intro hCont
       refine two_ (i:=5) (j:=7) (Ni:=some 39) (Nj:=some 11) #[true,true,true,true,true,true,false,false,false] #[true,true,true,true,true,false,false,true,false] rfl rfl rfl rfl (two_of HT_.out (by kernel_rfl)) (by decide) (by decide) (fun K hK=>?_) (fun K hK=>?_)
       ·skip
        refine goes_ Tryd.func14 (by kernel_rfl) rfl #[.int .i64 t178,.agg #[.int .i64 t182,.string t183],.agg #[.int .i64 t185,.string t186]] (by rfl) rfl rfl (by (try simp only [List.map_toArray,List.map_cons,List.map_nil]);first|done|rfl|(simp only [List.length_drop,List.length_take];rfl)) ?_
        with_reducible refine (value_Add.calls k t178 t182 t183 t185 t186 t193 t194 _ A10.out).mono ?_
        rintro e w140 ⟨rfl,hb⟩
        refine ⟨_,rfl,?_⟩
        have n0_:=Aside0.mk (blk_below (blk_up BK176.out) hb)
        have n1_:=Aside0.mk (blk_below (blk_up BK181.out) hb)
        have n2_:=Aside0.mk (blk_below (blk_up BK184.out) hb)
        have n3_:=Aside0.mk (blk_below (blk_up BK187.out) hb)
        have n4_:=Aside0.mk (blk_below (blk_up BK192.out) hb)
        have n5_:=Aside0.mk (below_step (below_go HB.out) hb)
        clear BK176
        clear BK181
        clear BK184
        clear BK187
        clear BK192
        clear HB
        have BK176:=n0_
        have BK181:=n1_
        have BK184:=n2_
        have BK187:=n3_
        have BK192:=n4_
        have HB:=n5_
        clear n0_ n1_ n2_ n3_ n4_ n5_
        (try clear hb)
        (try clear hb2)
        (try clear hk)
        (try clear hi)
        refine hK.out _ _ ⟨(blk_cell BK181.out 0).trans rfl,(blk_cell BK181.out 1).trans rfl,(blk_cell BK184.out 0).trans rfl,(blk_cell BK184.out 1).trans rfl,(blk_cell BK187.out 0).trans rfl,(blk_cell BK187.out 1).trans rfl⟩ (fun hHeld=>?_)
        clear hK K
        refine norm_ (a':=?_) ?_ ?_
        rotate_left
        ·show Act.put _ (some 39) _=_
         simp only [Act.put,List.setIfInBounds_toArray,List.set_cons_zero,List.set_cons_succ,i64_w,i32_w]
         rfl
        refine two_ (i:=6) (j:=7) (Ni:=some 40) (Nj:=some 11) #[true,true,true,true,true,true,true,false,false] #[true,true,true,true,true,true,false,true,false] rfl rfl rfl rfl (two_of HT_.out (by kernel_rfl)) (by decide) (by decide) (fun K hK=>?_) (fun K hK=>?_)
        ·skip
         refine goes_ Tryd.func14 (by kernel_rfl) rfl #[.int .i64 t178,.agg #[.int .i64 t179,.string t180],.agg #[.int .i64 t193,.string t194]] (by rfl) rfl rfl (by (try simp only [List.map_toArray,List.map_cons,List.map_nil]);first|done|rfl|(simp only [List.length_drop,List.length_take];rfl)) ?_
         with_reducible refine (value_Add.calls k t178 t179 t180 t193 t194 t195 t196 _ A11.out).mono ?_
         rintro e w141 ⟨rfl,hb⟩
         refine ⟨_,rfl,?_⟩
         have n0_:=Aside0.mk (blk_below (blk_up BK176.out) hb)
         have n1_:=Aside0.mk (blk_below (blk_up BK181.out) hb)
         have n2_:=Aside0.mk (blk_below (blk_up BK184.out) hb)
         have n3_:=Aside0.mk (blk_below (blk_up BK187.out) hb)
         have n4_:=Aside0.mk (blk_below (blk_up BK192.out) hb)
         have n5_:=Aside0.mk (below_step (below_go HB.out) hb)
         clear BK176
         clear BK181
         clear BK184
         clear BK187
         clear BK192
         clear HB
         have BK176:=n0_
         have BK181:=n1_
         have BK184:=n2_
         have BK187:=n3_
         have BK192:=n4_
         have HB:=n5_
         clear n0_ n1_ n2_ n3_ n4_ n5_
         (try clear hb)
         (try clear hb2)
         (try clear hk)
         (try clear hi)
         refine hK.out _ _ ⟨(blk_cell BK181.out 0).trans rfl,(blk_cell BK181.out 1).trans rfl,(blk_cell BK184.out 0).trans rfl,(blk_cell BK184.out 1).trans rfl,(blk_cell BK187.out 0).trans rfl,(blk_cell BK187.out 1).trans rfl⟩ (fun hHeld=>?_)
         clear hK K
         refine norm_ (a':=?_) ?_ ?_
         rotate_left
         ·show Act.put _ (some 40) _=_
          simp only [Act.put,List.setIfInBounds_toArray,List.set_cons_zero,List.set_cons_succ,i64_w,i32_w]
          rfl
         refine one_ (i:=7) (N:=some 11) #[true,true,true,true,true,true,true,true,false] rfl rfl (one_of HT_.out (by kernel_rfl)) (by decide) (fun K hK=>?_)
         refine box_step ?hg (N:=11) ?hd (cs:=#[.int .i64 0,.string (⟨#[]⟩ : ByteArray)]) (t:=23) ?hr ?_;(case hd=>rfl);(case hg=>rfl);(case hr=>first|(go_simp;done)|(go_simp;rfl))
         intro gb197 hg w142 hbox hb
         have n0_:=Aside0.mk (blk_below (blk_up BK176.out) hb)
         have n1_:=Aside0.mk (blk_below (blk_up BK181.out) hb)
         have n2_:=Aside0.mk (blk_below (blk_up BK184.out) hb)
         have n3_:=Aside0.mk (blk_below (blk_up BK187.out) hb)
         have n4_:=Aside0.mk (blk_below (blk_up BK192.out) hb)
         have n5_:=Aside0.mk (below_step (below_go HB.out) hb)
         have n6_:=Aside0.mk (hbox)
         have n7_:=Aside0.mk ((by rw [hg];exact (below_size (below_go HB.out)) : w.heap.size≤gb197))
         have n8_:=Aside0.mk ((by rw [hg];exact (below_size (below_go HB.out)) : w.heap.size≤gb197))
         have n9_:=Aside0.mk ((by rw [hg];exact Nat.ne_of_lt (blk_lt (blk_up BK176.out)) : gb176≠gb197))
         have n10_:=Aside0.mk ((by rw [hg];exact Nat.ne_of_gt (blk_lt (blk_up BK176.out)) : gb197≠gb176))
         have n11_:=Aside0.mk ((by rw [hg];exact Nat.ne_of_lt (blk_lt (blk_up BK181.out)) : gb181≠gb197))
         have n12_:=Aside0.mk ((by rw [hg];exact Nat.ne_of_gt (blk_lt (blk_up BK181.out)) : gb197≠gb181))
         have n13_:=Aside0.mk ((by rw [hg];exact Nat.ne_of_lt (blk_lt (blk_up BK184.out)) : gb184≠gb197))
         have n14_:=Aside0.mk ((by rw [hg];exact Nat.ne_of_gt (blk_lt (blk_up BK184.out)) : gb197≠gb184))
         have n15_:=Aside0.mk ((by rw [hg];exact Nat.ne_of_lt (blk_lt (blk_up BK187.out)) : gb187≠gb197))
         have n16_:=Aside0.mk ((by rw [hg];exact Nat.ne_of_gt (blk_lt (blk_up BK187.out)) : gb197≠gb187))
         have n17_:=Aside0.mk ((by rw [hg];exact Nat.ne_of_lt (blk_lt (blk_up BK192.out)) : gb192≠gb197))
         have n18_:=Aside0.mk ((by rw [hg];exact Nat.ne_of_gt (blk_lt (blk_up BK192.out)) : gb197≠gb192))
         clear BK176
         clear BK181
         clear BK184
         clear BK187
         clear BK192
         clear HB
         have BK176:=n0_
         have BK181:=n1_
         have BK184:=n2_
         have BK187:=n3_
         have BK192:=n4_
         have HB:=n5_
         have BK197:=n6_
         have GW197:=n7_
         have GE197:=n8_
         have NB176_197:=n9_
         have NB197_176:=n10_
         have NB181_197:=n11_
         have NB197_181:=n12_
         have NB184_197:=n13_
         have NB197_184:=n14_
         have NB187_197:=n15_
         have NB197_187:=n16_
         have NB192_197:=n17_
         have NB197_192:=n18_
         clear n0_ n1_ n2_ n3_ n4_ n5_ n6_ n7_ n8_ n9_ n10_ n11_ n12_ n13_ n14_ n15_ n16_ n17_ n18_
         clear hb hbox hg
         refine hK.out _ _ ⟨(blk_cell BK181.out 0).trans rfl,(blk_cell BK181.out 1).trans rfl,(blk_cell BK184.out 0).trans rfl,(blk_cell BK184.out 1).trans rfl,(blk_cell BK187.out 0).trans rfl,(blk_cell BK187.out 1).trans rfl⟩ (fun hHeld=>?_)
         clear hK K
         refine norm_ (a':=?_) ?_ ?_
         rotate_left
         ·show Act.put _ (some 11) _=_
          simp only [Act.put,List.setIfInBounds_toArray,List.set_cons_zero,List.set_cons_succ,i64_w,i32_w]
          rfl
         exact norm_ (by simp only [putAll,Act.put,List.setIfInBounds_toArray,List.set_cons_zero,List.set_cons_succ]) (hCont (gb197) _ ⟨hHeld,(blk_up BK176.out),(blk_up BK181.out),(blk_up BK184.out),(blk_up BK187.out),(blk_up BK192.out),(blk_up BK197.out),GW197.out,GE197.out,NB176_197.out,NB197_176.out,NB181_197.out,NB197_181.out,NB184_197.out,NB197_184.out,NB187_197.out,NB197_187.out,NB192_197.out,NB197_192.out,(below_go HB.out)⟩)
        ·skip
         refine box_step ?hg (N:=11) ?hd (cs:=#[.int .i64 0,.string (⟨#[]⟩ : ByteArray)]) (t:=23) ?hr ?_;(case hd=>rfl);(case hg=>rfl);(case hr=>first|(go_simp;done)|(go_simp;rfl))
         intro gb197 hg w141 hbox hb
         have n0_:=Aside0.mk (blk_below (blk_up BK176.out) hb)
         have n1_:=Aside0.mk (blk_below (blk_up BK181.out) hb)
         have n2_:=Aside0.mk (blk_below (blk_up BK184.out) hb)
         have n3_:=Aside0.mk (blk_below (blk_up BK187.out) hb)
         have n4_:=Aside0.mk (blk_below (blk_up BK192.out) hb)
         have n5_:=Aside0.mk (below_step (below_go HB.out) hb)
         have n6_:=Aside0.mk (hbox)
         have n7_:=Aside0.mk ((by rw [hg];exact (below_size (below_go HB.out)) : w.heap.size≤gb197))
         have n8_:=Aside0.mk ((by rw [hg];exact (below_size (below_go HB.out)) : w.heap.size≤gb197))
         have n9_:=Aside0.mk ((by rw [hg];exact Nat.ne_of_lt (blk_lt (blk_up BK176.out)) : gb176≠gb197))
         have n10_:=Aside0.mk ((by rw [hg];exact Nat.ne_of_gt (blk_lt (blk_up BK176.out)) : gb197≠gb176))
         have n11_:=Aside0.mk ((by rw [hg];exact Nat.ne_of_lt (blk_lt (blk_up BK181.out)) : gb181≠gb197))
         have n12_:=Aside0.mk ((by rw [hg];exact Nat.ne_of_gt (blk_lt (blk_up BK181.out)) : gb197≠gb181))
         have n13_:=Aside0.mk ((by rw [hg];exact Nat.ne_of_lt (blk_lt (blk_up BK184.out)) : gb184≠gb197))
         have n14_:=Aside0.mk ((by rw [hg];exact Nat.ne_of_gt (blk_lt (blk_up BK184.out)) : gb197≠gb184))
         have n15_:=Aside0.mk ((by rw [hg];exact Nat.ne_of_lt (blk_lt (blk_up BK187.out)) : gb187≠gb197))
         have n16_:=Aside0.mk ((by rw [hg];exact Nat.ne_of_gt (blk_lt (blk_up BK187.out)) : gb197≠gb187))
         have n17_:=Aside0.mk ((by rw [hg];exact Nat.ne_of_lt (blk_lt (blk_up BK192.out)) : gb192≠gb197))
         have n18_:=Aside0.mk ((by rw [hg];exact Nat.ne_of_gt (blk_lt (blk_up BK192.out)) : gb197≠gb192))
         clear BK176
         clear BK181
         clear BK184
         clear BK187
         clear BK192
         clear HB
         have BK176:=n0_
         have BK181:=n1_
         have BK184:=n2_
         have BK187:=n3_
         have BK192:=n4_
         have HB:=n5_
         have BK197:=n6_
         have GW197:=n7_
         have GE197:=n8_
         have NB176_197:=n9_
         have NB197_176:=n10_
         have NB181_197:=n11_
         have NB197_181:=n12_
         have NB184_197:=n13_
         have NB197_184:=n14_
         have NB187_197:=n15_
         have NB197_187:=n16_
         have NB192_197:=n17_
         have NB197_192:=n18_
         clear n0_ n1_ n2_ n3_ n4_ n5_ n6_ n7_ n8_ n9_ n10_ n11_ n12_ n13_ n14_ n15_ n16_ n17_ n18_
         clear hb hbox hg
         refine hK.out _ _ ⟨(blk_cell BK181.out 0).trans rfl,(blk_cell BK181.out 1).trans rfl,(blk_cell BK184.out 0).trans rfl,(blk_cell BK184.out 1).trans rfl,(blk_cell BK187.out 0).trans rfl,(blk_cell BK187.out 1).trans rfl⟩ (fun hHeld=>?_)
         clear hK K
         refine norm_ (a':=?_) ?_ ?_
         rotate_left
         ·show Act.put _ (some 11) _=_
          simp only [Act.put,List.setIfInBounds_toArray,List.set_cons_zero,List.set_cons_succ,i64_w,i32_w]
          rfl
         refine one_ (i:=6) (N:=some 40) #[true,true,true,true,true,true,true,true,false] rfl rfl (one_of HT_.out (by kernel_rfl)) (by decide) (fun K hK=>?_)
         refine goes_ Tryd.func14 (by kernel_rfl) rfl #[.int .i64 t178,.agg #[.int .i64 t179,.string t180],.agg #[.int .i64 t193,.string t194]] (by rfl) rfl rfl (by (try simp only [List.map_toArray,List.map_cons,List.map_nil]);first|done|rfl|(simp only [List.length_drop,List.length_take];rfl)) ?_
         with_reducible refine (value_Add.calls k t178 t179 t180 t193 t194 t195 t196 _ A11.out).mono ?_
         rintro e w142 ⟨rfl,hb⟩
         refine ⟨_,rfl,?_⟩
         have n0_:=Aside0.mk (blk_below (blk_up BK176.out) hb)
         have n1_:=Aside0.mk (blk_below (blk_up BK181.out) hb)
         have n2_:=Aside0.mk (blk_below (blk_up BK184.out) hb)
         have n3_:=Aside0.mk (blk_below (blk_up BK187.out) hb)
         have n4_:=Aside0.mk (blk_below (blk_up BK192.out) hb)
         have n5_:=Aside0.mk (blk_below (g:=gb197) (o:=.cells #[.int .i64 0,.string (⟨#[]⟩ : ByteArray)] 23 (0,0)) (blk_up BK197.out) hb)
         have n6_:=Aside0.mk (below_step (below_go HB.out) hb)
         clear BK176
         clear BK181
         clear BK184
         clear BK187
         clear BK192
         clear BK197
         clear HB
         have BK176:=n0_
         have BK181:=n1_
         have BK184:=n2_
         have BK187:=n3_
         have BK192:=n4_
         have BK197:=n5_
         have HB:=n6_
         clear n0_ n1_ n2_ n3_ n4_ n5_ n6_
         (try clear hb)
         (try clear hb2)
         (try clear hk)
         (try clear hi)
         refine hK.out _ _ ⟨(blk_cell BK181.out 0).trans rfl,(blk_cell BK181.out 1).trans rfl,(blk_cell BK184.out 0).trans rfl,(blk_cell BK184.out 1).trans rfl,(blk_cell BK187.out 0).trans rfl,(blk_cell BK187.out 1).trans rfl⟩ (fun hHeld=>?_)
         clear hK K
         refine norm_ (a':=?_) ?_ ?_
         rotate_left
         ·show Act.put _ (some 40) _=_
          simp only [Act.put,List.setIfInBounds_toArray,List.set_cons_zero,List.set_cons_succ,i64_w,i32_w]
          rfl
         exact norm_ (by simp only [putAll,Act.put,List.setIfInBounds_toArray,List.set_cons_zero,List.set_cons_succ]) (hCont (gb197) _ ⟨hHeld,(blk_up BK176.out),(blk_up BK181.out),(blk_up BK184.out),(blk_up BK187.out),(blk_up BK192.out),(blk_up BK197.out),GW197.out,GE197.out,NB176_197.out,NB197_176.out,NB181_197.out,NB197_181.out,NB184_197.out,NB197_184.out,NB187_197.out,NB197_187.out,NB192_197.out,NB197_192.out,(below_go HB.out)⟩)
       ·skip
        refine box_step ?hg (N:=11) ?hd (cs:=#[.int .i64 0,.string (⟨#[]⟩ : ByteArray)]) (t:=23) ?hr ?_;(case hd=>rfl);(case hg=>rfl);(case hr=>first|(go_simp;done)|(go_simp;rfl))
        intro gb197 hg w140 hbox hb
        have n0_:=Aside0.mk (blk_below (blk_up BK176.out) hb)
        have n1_:=Aside0.mk (blk_below (blk_up BK181.out) hb)
        have n2_:=Aside0.mk (blk_below (blk_up BK184.out) hb)
        have n3_:=Aside0.mk (blk_below (blk_up BK187.out) hb)
        have n4_:=Aside0.mk (blk_below (blk_up BK192.out) hb)
        have n5_:=Aside0.mk (below_step (below_go HB.out) hb)
        have n6_:=Aside0.mk (hbox)
        have n7_:=Aside0.mk ((by rw [hg];exact (below_size (below_go HB.out)) : w.heap.size≤gb197))
        have n8_:=Aside0.mk ((by rw [hg];exact (below_size (below_go HB.out)) : w.heap.size≤gb197))
        have n9_:=Aside0.mk ((by rw [hg];exact Nat.ne_of_lt (blk_lt (blk_up BK176.out)) : gb176≠gb197))
        have n10_:=Aside0.mk ((by rw [hg];exact Nat.ne_of_gt (blk_lt (blk_up BK176.out)) : gb197≠gb176))
        have n11_:=Aside0.mk ((by rw [hg];exact Nat.ne_of_lt (blk_lt (blk_up BK181.out)) : gb181≠gb197))
        have n12_:=Aside0.mk ((by rw [hg];exact Nat.ne_of_gt (blk_lt (blk_up BK181.out)) : gb197≠gb181))
        have n13_:=Aside0.mk ((by rw [hg];exact Nat.ne_of_lt (blk_lt (blk_up BK184.out)) : gb184≠gb197))
        have n14_:=Aside0.mk ((by rw [hg];exact Nat.ne_of_gt (blk_lt (blk_up BK184.out)) : gb197≠gb184))
        have n15_:=Aside0.mk ((by rw [hg];exact Nat.ne_of_lt (blk_lt (blk_up BK187.out)) : gb187≠gb197))
        have n16_:=Aside0.mk ((by rw [hg];exact Nat.ne_of_gt (blk_lt (blk_up BK187.out)) : gb197≠gb187))
        have n17_:=Aside0.mk ((by rw [hg];exact Nat.ne_of_lt (blk_lt (blk_up BK192.out)) : gb192≠gb197))
        have n18_:=Aside0.mk ((by rw [hg];exact Nat.ne_of_gt (blk_lt (blk_up BK192.out)) : gb197≠gb192))
        clear BK176
        clear BK181
        clear BK184
        clear BK187
        clear BK192
        clear HB
        have BK176:=n0_
        have BK181:=n1_
        have BK184:=n2_
        have BK187:=n3_
        have BK192:=n4_
        have HB:=n5_
        have BK197:=n6_
        have GW197:=n7_
        have GE197:=n8_
        have NB176_197:=n9_
        have NB197_176:=n10_
        have NB181_197:=n11_
        have NB197_181:=n12_
        have NB184_197:=n13_
        have NB197_184:=n14_
        have NB187_197:=n15_
        have NB197_187:=n16_
        have NB192_197:=n17_
        have NB197_192:=n18_
        clear n0_ n1_ n2_ n3_ n4_ n5_ n6_ n7_ n8_ n9_ n10_ n11_ n12_ n13_ n14_ n15_ n16_ n17_ n18_
        clear hb hbox hg
        refine hK.out _ _ ⟨(blk_cell BK181.out 0).trans rfl,(blk_cell BK181.out 1).trans rfl,(blk_cell BK184.out 0).trans rfl,(blk_cell BK184.out 1).trans rfl,(blk_cell BK187.out 0).trans rfl,(blk_cell BK187.out 1).trans rfl⟩ (fun hHeld=>?_)
        clear hK K
        refine norm_ (a':=?_) ?_ ?_
        rotate_left
        ·show Act.put _ (some 11) _=_
         simp only [Act.put,List.setIfInBounds_toArray,List.set_cons_zero,List.set_cons_succ,i64_w,i32_w]
         rfl
        refine one_ (i:=5) (N:=some 39) #[true,true,true,true,true,true,false,true,false] rfl rfl (one_of HT_.out (by kernel_rfl)) (by decide) (fun K hK=>?_)
        refine goes_ Tryd.func14 (by kernel_rfl) rfl #[.int .i64 t178,.agg #[.int .i64 t182,.string t183],.agg #[.int .i64 t185,.string t186]] (by rfl) rfl rfl (by (try simp only [List.map_toArray,List.map_cons,List.map_nil]);first|done|rfl|(simp only [List.length_drop,List.length_take];rfl)) ?_
        with_reducible refine (value_Add.calls k t178 t182 t183 t185 t186 t193 t194 _ A10.out).mono ?_
        rintro e w141 ⟨rfl,hb⟩
        refine ⟨_,rfl,?_⟩
        have n0_:=Aside0.mk (blk_below (blk_up BK176.out) hb)
        have n1_:=Aside0.mk (blk_below (blk_up BK181.out) hb)
        have n2_:=Aside0.mk (blk_below (blk_up BK184.out) hb)
        have n3_:=Aside0.mk (blk_below (blk_up BK187.out) hb)
        have n4_:=Aside0.mk (blk_below (blk_up BK192.out) hb)
        have n5_:=Aside0.mk (blk_below (g:=gb197) (o:=.cells #[.int .i64 0,.string (⟨#[]⟩ : ByteArray)] 23 (0,0)) (blk_up BK197.out) hb)
        have n6_:=Aside0.mk (below_step (below_go HB.out) hb)
        clear BK176
        clear BK181
        clear BK184
        clear BK187
        clear BK192
        clear BK197
        clear HB
        have BK176:=n0_
        have BK181:=n1_
        have BK184:=n2_
        have BK187:=n3_
        have BK192:=n4_
        have BK197:=n5_
        have HB:=n6_
        clear n0_ n1_ n2_ n3_ n4_ n5_ n6_
        (try clear hb)
        (try clear hb2)
        (try clear hk)
        (try clear hi)
        refine hK.out _ _ ⟨(blk_cell BK181.out 0).trans rfl,(blk_cell BK181.out 1).trans rfl,(blk_cell BK184.out 0).trans rfl,(blk_cell BK184.out 1).trans rfl,(blk_cell BK187.out 0).trans rfl,(blk_cell BK187.out 1).trans rfl⟩ (fun hHeld=>?_)
        clear hK K
        refine norm_ (a':=?_) ?_ ?_
        rotate_left
        ·show Act.put _ (some 39) _=_
         simp only [Act.put,List.setIfInBounds_toArray,List.set_cons_zero,List.set_cons_succ,i64_w,i32_w]
         rfl
        refine one_ (i:=6) (N:=some 40) #[true,true,true,true,true,true,true,true,false] rfl rfl (one_of HT_.out (by kernel_rfl)) (by decide) (fun K hK=>?_)
        refine goes_ Tryd.func14 (by kernel_rfl) rfl #[.int .i64 t178,.agg #[.int .i64 t179,.string t180],.agg #[.int .i64 t193,.string t194]] (by rfl) rfl rfl (by (try simp only [List.map_toArray,List.map_cons,List.map_nil]);first|done|rfl|(simp only [List.length_drop,List.length_take];rfl)) ?_
        with_reducible refine (value_Add.calls k t178 t179 t180 t193 t194 t195 t196 _ A11.out).mono ?_
        rintro e w142 ⟨rfl,hb⟩
        refine ⟨_,rfl,?_⟩
        have n0_:=Aside0.mk (blk_below (blk_up BK176.out) hb)
        have n1_:=Aside0.mk (blk_below (blk_up BK181.out) hb)
        have n2_:=Aside0.mk (blk_below (blk_up BK184.out) hb)
        have n3_:=Aside0.mk (blk_below (blk_up BK187.out) hb)
        have n4_:=Aside0.mk (blk_below (blk_up BK192.out) hb)
        have n5_:=Aside0.mk (blk_below (g:=gb197) (o:=.cells #[.int .i64 0,.string (⟨#[]⟩ : ByteArray)] 23 (0,0)) (blk_up BK197.out) hb)
        have n6_:=Aside0.mk (below_step (below_go HB.out) hb)
        clear BK176
        clear BK181
        clear BK184
        clear BK187
        clear BK192
        clear BK197
        clear HB
        have BK176:=n0_
        have BK181:=n1_
        have BK184:=n2_
        have BK187:=n3_
        have BK192:=n4_
        have BK197:=n5_
        have HB:=n6_
        clear n0_ n1_ n2_ n3_ n4_ n5_ n6_
        (try clear hb)
        (try clear hb2)
        (try clear hk)
        (try clear hi)
        refine hK.out _ _ ⟨(blk_cell BK181.out 0).trans rfl,(blk_cell BK181.out 1).trans rfl,(blk_cell BK184.out 0).trans rfl,(blk_cell BK184.out 1).trans rfl,(blk_cell BK187.out 0).trans rfl,(blk_cell BK187.out 1).trans rfl⟩ (fun hHeld=>?_)
        clear hK K
        refine norm_ (a':=?_) ?_ ?_
        rotate_left
        ·show Act.put _ (some 40) _=_
         simp only [Act.put,List.setIfInBounds_toArray,List.set_cons_zero,List.set_cons_succ,i64_w,i32_w]
         rfl
        exact norm_ (by simp only [putAll,Act.put,List.setIfInBounds_toArray,List.set_cons_zero,List.set_cons_succ]) (hCont (gb197) _ ⟨hHeld,(blk_up BK176.out),(blk_up BK181.out),(blk_up BK184.out),(blk_up BK187.out),(blk_up BK192.out),(blk_up BK197.out),GW197.out,GE197.out,NB176_197.out,NB197_176.out,NB181_197.out,NB197_181.out,NB184_197.out,NB197_184.out,NB187_197.out,NB197_187.out,NB192_197.out,NB197_192.out,(below_go HB.out)⟩)
      rintro gb197 w143 ⟨hS_,h0_,h1_,h2_,h3_,h4_,h5_,h6_,h7_,h8_,h9_,h10_,h11_,h12_,h13_,h14_,h15_,h16_,h17_,h18_⟩
      have n0_ : Aside0 (w143.heap[gb176]?=some (.cells #[.int .i64 a1_0,.string a1_1,.int .i64 a1_2,.string a1_3,.int .i64 a1_4,.string a1_5] 24 (0,0))):=⟨h0_⟩
      have n1_ : Aside0 (w143.heap[gb181]?=some (.cells #[.int .i64 t179,.string t180] 23 (0,0))):=⟨h1_⟩
      have n2_ : Aside0 (w143.heap[gb184]?=some (.cells #[.int .i64 t182,.string t183] 23 (0,0))):=⟨h2_⟩
      have n3_ : Aside0 (w143.heap[gb187]?=some (.cells #[.int .i64 t185,.string t186] 23 (0,0))):=⟨h3_⟩
      have n4_ : Aside0 (w143.heap[gb192]?=some (.cells #[.int .i64 t190,.string t191] 23 (0,0))):=⟨h4_⟩
      have n5_ : Aside0 (w143.heap[gb197]?=some (.cells #[.int .i64 0,.string (⟨#[]⟩ : ByteArray)] 23 (0,0))):=⟨h5_⟩
      have n6_ : Aside0 (w.heap.size≤gb197):=⟨h6_⟩
      have n7_ : Aside0 (w.heap.size≤gb197):=⟨h7_⟩
      have n8_ : Aside0 (gb176≠gb197):=⟨h8_⟩
      have n9_ : Aside0 (gb197≠gb176):=⟨h9_⟩
      have n10_ : Aside0 (gb181≠gb197):=⟨h10_⟩
      have n11_ : Aside0 (gb197≠gb181):=⟨h11_⟩
      have n12_ : Aside0 (gb184≠gb197):=⟨h12_⟩
      have n13_ : Aside0 (gb197≠gb184):=⟨h13_⟩
      have n14_ : Aside0 (gb187≠gb197):=⟨h14_⟩
      have n15_ : Aside0 (gb197≠gb187):=⟨h15_⟩
      have n16_ : Aside0 (gb192≠gb197):=⟨h16_⟩
      have n17_ : Aside0 (gb197≠gb192):=⟨h17_⟩
      have n18_ : Aside0 (Below w.heap.size w w143):=⟨h18_⟩
      clear BK176
      clear BK181
      clear BK184
      clear BK187
      clear BK192
      clear HB
      clear h0_ h1_ h2_ h3_ h4_ h5_ h6_ h7_ h8_ h9_ h10_ h11_ h12_ h13_ h14_ h15_ h16_ h17_ h18_
      have BK176:=n0_
      have BK181:=n1_
      have BK184:=n2_
      have BK187:=n3_
      have BK192:=n4_
      have BK197:=n5_
      have GW197:=n6_
      have GE197:=n7_
      have NB176_197:=n8_
      have NB197_176:=n9_
      have NB181_197:=n10_
      have NB197_181:=n11_
      have NB184_197:=n12_
      have NB197_184:=n13_
      have NB187_197:=n14_
      have NB197_187:=n15_
      have NB192_197:=n16_
      have NB197_192:=n17_
      have HB:=n18_
      clear n0_ n1_ n2_ n3_ n4_ n5_ n6_ n7_ n8_ n9_ n10_ n11_ n12_ n13_ n14_ n15_ n16_ n17_ n18_
      have hHeld : w143.cell? ⟨gb181,0,none⟩=some (.int .i64 t179)∧w143.cell? ⟨gb181,1,none⟩=some (.string t180)∧w143.cell? ⟨gb184,0,none⟩=some (.int .i64 t182)∧w143.cell? ⟨gb184,1,none⟩=some (.string t183)∧w143.cell? ⟨gb187,0,none⟩=some (.int .i64 t185)∧w143.cell? ⟨gb187,1,none⟩=some (.string t186):=hS_
      refine norm_ (a':=?_) ?_ ?_
      rotate_left
      ·simp only [putAll,Act.put,List.setIfInBounds_toArray,List.set_cons_zero,List.set_cons_succ]
       rfl
      refine one_ (i:=8) (N:=none) #[true,true,true,true,true,true,true,true,true] rfl rfl (one_of HT_.out (by kernel_rfl)) (by decide) (fun K hK=>?_)
      have hs144 : w143.cell? ⟨gb197,0,none⟩=some (.int .i64 0):=(blk_cell BK197.out 0).trans rfl
      have hfs144:=blk_frozen BK197.out 0
      have hns144_0:=NB176_197.out
      have hns144_1:=NB181_197.out
      have hns144_2:=NB184_197.out
      have hns144_3:=NB187_197.out
      have hns144_4:=NB192_197.out
      have hms144_0:=NB197_176.out
      have hms144_1:=NB197_181.out
      have hms144_2:=NB197_184.out
      have hms144_3:=NB197_187.out
      have hms144_4:=NB197_192.out
      have hs145 : w143.cell? ⟨gb197,1,none⟩=some (.string (⟨#[]⟩ : ByteArray)):=(blk_cell BK197.out 1).trans rfl
      have hfs145:=blk_frozen BK197.out 1
      have hns145_0:=NB176_197.out
      have hns145_1:=NB181_197.out
      have hns145_2:=NB184_197.out
      have hns145_3:=NB187_197.out
      have hns145_4:=NB192_197.out
      have hms145_0:=NB197_176.out
      have hms145_1:=NB197_181.out
      have hms145_2:=NB197_184.out
      have hms145_3:=NB197_187.out
      have hms145_4:=NB197_192.out
      refine skip_ (w1:=?_) (by rfl) rfl ?_ ?_
      rotate_left
      ·go_simp
       rfl
      refine hK.out _ _ ⟨((cell_far (p:=⟨gb197,_,none⟩) NB181_197.out _).trans (((cell_far (p:=⟨gb197,_,none⟩) NB181_197.out _).trans (hHeld.1)))),((cell_far (p:=⟨gb197,_,none⟩) NB181_197.out _).trans (((cell_far (p:=⟨gb197,_,none⟩) NB181_197.out _).trans (hHeld.2.1)))),((cell_far (p:=⟨gb197,_,none⟩) NB184_197.out _).trans (((cell_far (p:=⟨gb197,_,none⟩) NB184_197.out _).trans (hHeld.2.2.1)))),((cell_far (p:=⟨gb197,_,none⟩) NB184_197.out _).trans (((cell_far (p:=⟨gb197,_,none⟩) NB184_197.out _).trans (hHeld.2.2.2.1)))),((cell_far (p:=⟨gb197,_,none⟩) NB187_197.out _).trans (((cell_far (p:=⟨gb197,_,none⟩) NB187_197.out _).trans (hHeld.2.2.2.2.1)))),((cell_far (p:=⟨gb197,_,none⟩) NB187_197.out _).trans (((cell_far (p:=⟨gb197,_,none⟩) NB187_197.out _).trans (hHeld.2.2.2.2.2))))⟩ (fun hHeld=>?_)
      clear hK K
      refine done_ (done_of HT_.out (by kernel_rfl)) ?_
      (try clear hHeld)
      have hnb146:=NB192_176.out
      have hnc146:=NB176_192.out
      have hnb147:=NB192_181.out
      have hnc147:=NB181_192.out
      have hnb148:=NB192_184.out
      have hnc148:=NB184_192.out
      have hnb149:=NB192_187.out
      have hnc149:=NB187_192.out
      have hnb150:=NB192_197.out
      have hnc150:=NB197_192.out
      have hcz151_0 : w143.cell? ⟨gb192,0,none⟩=some (.int .i64 t190):=(blk_cell BK192.out 0).trans rfl
      have hcz151_1 : w143.cell? ⟨gb192,1,none⟩=some (.string t191):=(blk_cell BK192.out 1).trans rfl
      have hfz151_0:=blk_frozen BK192.out 0
      have hfz151_1:=blk_frozen BK192.out 1
      have hnb152:=NB197_176.out
      have hnc152:=NB176_197.out
      have hnb153:=NB197_181.out
      have hnc153:=NB181_197.out
      have hnb154:=NB197_184.out
      have hnc154:=NB184_197.out
      have hnb155:=NB197_187.out
      have hnc155:=NB187_197.out
      have hcz156_0 : w143.cell? ⟨gb197,0,none⟩=some (.int .i64 0):=(blk_cell BK197.out 0).trans rfl
      have hcz156_1 : w143.cell? ⟨gb197,1,none⟩=some (.string (⟨#[]⟩ : ByteArray)):=(blk_cell BK197.out 1).trans rfl
      have hfz156_0:=blk_frozen BK197.out 0
      have hfz156_1:=blk_frozen BK197.out 1
      try go_wp2
      go_ret
      exact ⟨by first|rfl|(simp [errW_none,errW_some] <;> rfl)|(simp [*,errW_none,errW_some] <;> rfl),by repeat (first|(with_reducible first|exact HB.out|apply below_alloc|apply pw_below_drewN|apply below_drew1|refine below_set ?_ GE176.out|refine below_set ?_ GE181.out|refine below_set ?_ GE184.out|refine below_set ?_ GE187.out|refine below_set ?_ GE192.out|refine below_set ?_ GE197.out)|exact HB.out)⟩
    ·
     revert k a0 a1_0 a1_1 a1_2 a1_3 a1_4 a1_5 r w HTAB_ hfl_ hu24 hu23 HB t177 A3 t178 A4 t179 t180 A5 t182 t183 A6 t185 t186 A7 t188 t189 A8 t190 t191 A9 t193 t194 A10 t195 t196 H A11 c12b0 c60
     exact hp0_.out
end Go.Proofs.YtifpjhghbafcjaaDoor.P
