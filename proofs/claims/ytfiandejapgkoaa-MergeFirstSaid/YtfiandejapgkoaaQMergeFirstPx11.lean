/- Texts of MergeFirst. Merged: Px11. -/
import Derived.Test.YtfiandejapgkoaaQMergeFirstPx0
namespace Go.Proofs.Ytfiandejapgkoaa.P
open Go.RowKit Go.Proofs.YtfiandejapgkoaaW.PrintWords Go.Proofs.YtfiandejapgkoaaW.PrintLast Go.Proofs.YtfiandejapgkoaaW.PrintMore
attribute [local go_sem] max2_int min2_int max_two min_two max_three min_three max_four min_four   -- for this text's walks alone
set_option linter.unusedVariables false
set_option linter.unusedSimpArgs false
def api_Row.f (l0 : List (List (S31))) : Option ((List (List (S31)))):=(some (([] : List (List (S31))) : List (List (S31)))).bind fun y298=>(if y298.length + l0.length < 5864062014805 then (some (y298 ++ l0)) else (none))
set_option maxHeartbeats 8000000 in
set_option maxRecDepth 100000 in
theorem api_Row.calls_some (P0_ : Nat→Prop) (a00 : Addr) (c0 : Nat) (l0 : List (List (S31))) (r : List (List (S31))) (w : World) (hs0 : Kd.V (Kd.slice 31 k31) 33 w w.heap.size (fun k_=>P0_ k_) (.slice (some a00) l0.length c0) l0) (h : api_Row.f l0=some r) :
  Calls Try.prog 31 #[.slice (some a00) l0.length c0] w fun e w'=>∃ v0_ : Value,e=.returned (v0_)∧Kd.N (Kd.slice 31 k31) 33 w' w.heap.size (fun k_=>(P0_ k_ ∨ w.heap.size≤k_)) v0_ r∧Below w.heap.size w w':=by
 have HO0:=Aside0.mk (show Kd.V (Kd.slice 31 k31) 33 w w.heap.size (fun k_=>(P0_ k_ ∨ w.heap.size≤k_)) (.slice (some a00) l0.length c0) l0 from Kd.V_mono hs0 (fun k_ hk=>.inl hk))
 have HB:=Aside0.mk (Below.refl w.heap.size w)
 have H : ((some (([] : List (List (S31))) : List (List (S31)))).bind fun y298=>(if y298.length + l0.length < 5864062014805 then (some (y298 ++ l0)) else (none)))=some r:=h
 clear h
 obtain ⟨y298,hy298⟩ : ∃ y_ : List (List (S31)),y_=(([] : List (List (S31)))):=⟨_,rfl⟩
 replace H : (if y298.length + l0.length < 5864062014805 then (some (y298 ++ l0)) else (none))=some r:=by first|(rw [hy298];with_reducible exact H)|(have H2_:=(Option.bind_some _ _).symm.trans H;rw [hy298];with_reducible exact H2_)|(have H2_:=(Option.bind_some _ _).symm.trans H;with_reducible exact H2_)|with_reducible exact H|(rw [hy298];exact H)|exact H
 have Ny298:=Aside0.mk hy298
 clear hy298
 by_cases c2 : y298.length + l0.length < 5864062014805
 ·rw [if_pos c2] at H
  have LMc2:=Aside0.mk c2
  clear c2
  obtain ⟨y301,hy301⟩ : ∃ y_ : List (List (S31)),y_=(y298 ++ l0):=⟨_,rfl⟩
  replace H : (some y301)=some r:=by first|(rw [hy301];with_reducible exact H)|(have H2_:=(Option.bind_some _ _).symm.trans H;rw [hy301];with_reducible exact H2_)|(have H2_:=(Option.bind_some _ _).symm.trans H;with_reducible exact H2_)|with_reducible exact H|(rw [hy301];exact H)|exact H
  have Ny301:=Aside0.mk hy301
  clear hy301
  obtain rfl:=Option.some.inj H
  have hqn : ∀ (w : World) (a : Option Addr) (n c n' c' : Nat),(binOp .eql 28 (.slice a n c) (.slice none n' c')).run Try.prog w=.ok (.bool a.isNone) w:=fun w a n c n' c'=>Lib.run_eql_slice_nil w _ _ a n c n' c' Try.underlying28
  go_enter Try.func31,Try.ntmps31
  go_wp2_with (first|((with_reducible refine gate_dst (N:=5) rfl ?_);refine Kd.N_lit (Kd.slice 31 k31) _ 33 ?hg (N':=5) ?hd (xs:=([] : List (List (S31)))) (inner:=[]) (ok:=(fun k_=>(P0_ k_ ∨ w.heap.size≤k_))) (okp:=(fun k_=>(P0_ k_ ∨ w.heap.size≤k_))) ?hr ?hp (fun _ hk=>hk) ((show ∀ k_,w.heap.size≤k_→(fun k_=>(P0_ k_ ∨ w.heap.size≤k_)) k_ from fun k_ hk=>(.inr (Nat.le_trans (below_size (below_up HB.out)) hk))) _ (Nat.le_refl _)) (Below.refl _ _) (Nat.le_refl _) (by simp) ?_;(case hd=>rfl);(case hg=>rfl);(case hr=>first|(go_simp;done)|(go_simp;rfl));(case hp=>exact (Reps.none _ _));intro v299 w3 ho4 hb hg_ hnew_;clear hg_ hnew_;(first|rw [← Ny298.out] at ho4|(simp only [Int.reduceToNat] at ho4;rw [← Ny298.out] at ho4));have n0_:=Aside0.mk (Kd.V_elder' (V_up HO0.out) (Kd.N_base ho4) hb);have n1_:=Aside0.mk (Kd.N_lower ho4 (below_size (below_up HB.out)));have n2_:=Aside0.mk (below_step (below_up HB.out) hb);clear HO0;clear HB;have HO0:=n0_;have HO300:=n1_;have HB:=n2_;clear n0_ n1_ n2_;clear hb ho4)|((with_reducible refine gate_builtin (b:=.append) (xs:=#[.tmp 5,.tmp 6]) rfl ?_);at_builtin;refine Kd.N_append_rows (Kd.slice 31 k31) (w0:=w) w.heap.size rfl (.tmp 5) (.tmp 6) 28 33 (.slice none 0 0) 24 rfl Try.underlying28 info33 rfl (by decide) (by omega) v299 y298 l0 _ _ _ (fun k_=>(P0_ k_ ∨ w.heap.size≤k_)) (fun k_=>((fun k_=>(P0_ k_ ∨ w.heap.size≤k_))) k_∧some k_≠(v299 : Value).ownBlock) rfl rfl ?aO ?aR (fun _ hk=>hk) ?aF ?aB ?aS ?aL ?_;(case aR=>exact (by skip;exact Kd.V_F (Kd.V_mono (ok':=(fun k_=>((fun k_=>(P0_ k_ ∨ w.heap.size≤k_))) k_∧some k_≠(v299 : Value).ownBlock)) (HO0.out) (fun k_ hk=>⟨hk.1,hk.2⟩))));(case aB=>exact (below_up HB.out));(case aF=>exact (fun k_ hk=>(.inr (Nat.le_trans (below_size (below_up HB.out)) hk))));(case aO=>exact (N_up HO300.out));(case aS=>exact (below_size (below_up HB.out)));(case aL=>have:=LMc2.out;omega);intro v302 w5 ho hb hg hat;rw [← Ny301.out] at ho;have n0_:=Aside0.mk (Kd.V_afterv (ok:=(fun k_=>(P0_ k_ ∨ w.heap.size≤k_))) (V_up HO0.out) hg hat);have n1_:=Aside0.mk (hb);have n2_:=Aside0.mk (ho);clear HO0;clear HB;clear HO300;have HO0:=n0_;have HB:=n1_;have HO303:=n2_;clear n0_ n1_ n2_;clear ho hb hg hat))
  go_ret
  exact ⟨_,by first|rfl|(simp [errW_none,errW_some] <;> rfl)|(simp [*,errW_none,errW_some] <;> rfl),by (with_reducible repeat (first|apply Kd.N_alloc|apply Kd.N_drewN|apply Kd.N_drew));exact HO303.out,by repeat (first|(with_reducible first|exact HB.out|apply below_alloc|apply pw_below_drewN|apply below_drew1)|exact HB.out)⟩
 ·rw [if_neg c2] at H
  exact absurd H (by simp)
set_option maxHeartbeats 8000000 in
set_option maxRecDepth 100000 in
theorem api_Row.calls (P0_ : Nat→Prop) (A0 : Option Addr) (c0 : Nat) (l0 : List (List (S31))) (r : List (List (S31))) (w : World) (hs0 : Kd.V (Kd.slice 31 k31) 33 w w.heap.size (fun k_=>P0_ k_) (.slice A0 l0.length c0) l0) (h : api_Row.f l0=some r) :
  Calls Try.prog 31 #[.slice A0 l0.length c0] w fun e w'=>∃ v0_ : Value,e=.returned (v0_)∧Kd.N (Kd.slice 31 k31) 33 w' w.heap.size (fun k_=>(P0_ k_ ∨ w.heap.size≤k_)) v0_ r∧Below w.heap.size w w':=by
 cases A0 with
 | some a00=>exact api_Row.calls_some P0_ a00 c0 l0 r w hs0 h
 | none =>
  have e0 : l0=[]:=by
   have hr0:=Kd.F_now (Kd.V_F hs0)
   cases l0 with
   | nil=>rfl
   | cons x xs=>obtain ⟨_,_,h2⟩:=hr0;obtain ⟨ad,e,_⟩:=h2 (by simp);cases e
  subst e0
  simp [api_Row.f] at h
  subst h
  have hqn : ∀ (w : World) (a : Option Addr) (n c n' c' : Nat),(binOp .eql 28 (.slice a n c) (.slice none n' c')).run Try.prog w=.ok (.bool a.isNone) w:=fun w a n c n' c'=>Lib.run_eql_slice_nil w _ _ a n c n' c' Try.underlying28
  go_enter Try.func31,Try.ntmps31
  go_wp2
  go_ret
  exact ⟨_,rfl,Kd.N_nil _ _ _ _ _,Below.refl _ _⟩
def value_Fits.j0 : Nat→Int→Bool→Int→ByteArray→Option (Bool)
 | 0,_,_,_,_=>none
 | k + 1,x5,x6,x305000,x305001=>if x6=true then (some (x305001.toList == ([] : List UInt8))) else (if x5=3 then (if x305000=0 then (some (decide ((x305001.size : Int)≤60))) else (some false)) else (some false))
def value_Fits.f (k : Nat) (a0 : Int) (a1_0 : Int) (a1_1 : ByteArray) : Option (Bool):=if a0=1 then (value_Fits.j0 k a0 (a0 == 1) a1_0 a1_1) else (value_Fits.j0 k a0 (a0 == 2) a1_0 a1_1)
theorem value_Fits.mono_l : ∀ k,(∀ y0 y1 y2 y3,LeO (value_Fits.j0 k y0 y1 y2 y3) (value_Fits.j0 (k + 1) y0 y1 y2 y3))
 | 0=>fun _ _ _ _ r h=>by simp [value_Fits.j0] at h
 | k + 1=>by
  have ih0:=value_Fits.mono_l k
  ·intro y0 y1 y2 y3
   unfold value_Fits.j0
   repeat' first
   | (with_reducible exact ih0 _ _ _ _)
   | (with_reducible exact LeO.refl _)
   | (with_reducible exact LeO.none _)
   | (with_reducible refine LeO.ite ?_ ?_)
   | (with_reducible refine LeO.bind ?_ (fun _=>?_))
   | exact ih0 _ _ _ _
   | exact LeO.none _
   | refine LeO.ite ?_ ?_
   | refine LeO.bind ?_ (fun _=>?_)
theorem value_Fits.mono : ∀ a0 a1 a2 k,LeO (value_Fits.f k a0 a1 a2) (value_Fits.f (k + 1) a0 a1 a2):=by
 intro a0 a1 a2 k
 have ih0:=value_Fits.mono_l k
 unfold value_Fits.f
 repeat' first
   | (with_reducible exact ih0 _ _ _ _)
   | (with_reducible exact LeO.refl _)
   | (with_reducible exact LeO.none _)
   | (with_reducible refine LeO.ite ?_ ?_)
   | (with_reducible refine LeO.bind ?_ (fun _=>?_))
   | exact ih0 _ _ _ _
   | exact LeO.none _
   | refine LeO.ite ?_ ?_
   | refine LeO.bind ?_ (fun _=>?_)
set_option maxHeartbeats 8000000 in
set_option maxRecDepth 100000 in
theorem value_Fits.calls (k : Nat) (a0 : Int) (a1_0 : Int) (a1_1 : ByteArray) (r : Bool) (w : World) (h : value_Fits.f k a0 a1_0 a1_1=some r) :
  Calls Try.prog 41 #[.int .i64 a0,.agg #[.int .i64 a1_0,.string a1_1]] w fun e w'=>e=.returned (.bool r)∧Below w.heap.size w w':=by
 have hu31:=Try.underlying31
 have HB:=Aside0.mk (Below.refl w.heap.size w)
 have H : (if a0=1 then (value_Fits.j0 k a0 (a0 == 1) a1_0 a1_1) else (value_Fits.j0 k a0 (a0 == 2) a1_0 a1_1))=some r:=h
 clear h
 have HC3:=Aside0.mk H
 clear H
 go_enter Try.func41,Try.ntmps41
 go_upto_if 6 with (first|((with_reducible refine gate_dst (N:=3) rfl ?_);(try (refine gate_guard (by rfl) ?_;dsimp only));refine box_event ?hg (N:=3) ?hd (cs:=#[.int .i64 a1_0,.string a1_1]) (t:=31) ?hr ?_;(case hd=>rfl);(case hg=>rfl);(case hr=>first|(go_simp;done)|(go_simp;rfl));intro gb304 hg w4 hbox hb;have n0_:=Aside0.mk (below_step (below_up HB.out) hb);have n1_:=Aside0.mk (hbox);have n2_:=Aside0.mk ((by rw [hg];exact (below_size (below_up HB.out)) : w.heap.size≤gb304));have n3_:=Aside0.mk ((by rw [hg];exact (below_size (below_up HB.out)) : w.heap.size≤gb304));clear HB;have HB:=n0_;have BK304:=n1_;have GW304:=n2_;have GE304:=n3_;clear n0_ n1_ n2_ n3_;clear hb hbox hg))
 (try simp only [Act.put,List.setIfInBounds_toArray,List.set_cons_zero,List.set_cons_succ])
 go_cut [6] (fun v6 wc=>∃ (kq : Nat) (x6_2 : Bool),v6=.bool x6_2∧Aside0 (value_Fits.j0 kq a0 x6_2 a1_0 a1_1=some r)∧Aside0 (kq≤k)∧Aside0 (wc.heap[gb304]?=some (.cells #[.int .i64 a1_0,.string a1_1] 31 (0,0)))∧Aside0 (Below w.heap.size w wc))
 case first =>
  have H:=HC3.out
  clear HC3
  by_cases c5 : a0=1
  ·rw [if_pos c5] at H
   have c5b0 : (a0 == 1)=true:=beq_iff_eq.mpr c5
   have c5b1 : (a0 != 1)=false:=bne_eq_false_iff_eq.mpr c5
   clear c5
   (first|rw [c5b0]|(simp only [i64_w,i32_w];rw [c5b0])|skip)
   have H':=Aside0.mk H
   clear H
   go_wp2
   go_meet
   case rel=>exact ⟨_,((a0 == 1)),(by first|rfl|(simp;done)|(simp [*];done)),(by first|exact H'|(subst_vars;exact H')),⟨by first|omega|exact Nat.le_refl _⟩,⟨by (with_reducible repeat (first|refine blk_drewN ?_ _|refine blk_drew ?_|refine blk_alloc ?_ _));exact BK304.out⟩,⟨by repeat (first|(with_reducible first|exact HB.out|apply below_alloc|apply pw_below_drewN|apply below_drew1|refine below_set ?_ GE304.out)|exact HB.out)⟩⟩
  ·rw [if_neg c5] at H
   have c5b0 : (a0 == 1)=false:=beq_eq_false_iff_ne.mpr c5
   have c5b1 : (a0 != 1)=true:=bne_iff_ne.mpr c5
   (first|rw [c5b0]|(simp only [i64_w,i32_w];rw [c5b0])|skip)
   have H':=Aside0.mk H
   clear H
   go_wp2
   go_meet
   case rel=>exact ⟨_,((a0 == 2)),(by first|rfl|(simp;done)|(simp [*];done)),(by first|exact H'|(subst_vars;exact H')),⟨by first|omega|exact Nat.le_refl _⟩,⟨by (with_reducible repeat (first|refine blk_drewN ?_ _|refine blk_drew ?_|refine blk_alloc ?_ _));exact BK304.out⟩,⟨by repeat (first|(with_reducible first|exact HB.out|apply below_alloc|apply pw_below_drewN|apply below_drew1|refine below_set ?_ GE304.out)|exact HB.out)⟩⟩
 case rest =>
  clear HC3
  try clear p2
  try clear c4
  try clear c5
  try clear c5b0
  try clear c5b1
  obtain ⟨kq,x6_2,rfl,HA,HJ2,BK304,HB⟩:=hcut
  cases kq with
  | zero=>exact absurd HA.out (by simp [value_Fits.j0])
  | succ kj2 =>
   have H:=HA.out
   clear HA
   simp only [value_Fits.j0] at H
   by_cases c6 : x6_2=true
   ·subst c6
    have H1 : (some (a1_1.toList == ([] : List UInt8)))=some r:=by rw [if_pos rfl] at H;exact H
    clear H
    have H:=H1
    clear H1
    obtain rfl:=Option.some.inj H
    have hcz7_0 : wc.cell? ⟨gb304,0,none⟩=some (.int .i64 a1_0):=(blk_cell BK304.out 0).trans rfl
    have hcz7_1 : wc.cell? ⟨gb304,1,none⟩=some (.string a1_1):=(blk_cell BK304.out 1).trans rfl
    have hfz7_0:=blk_frozen BK304.out 0
    have hfz7_1:=blk_frozen BK304.out 1
    go_wp2
    go_ret
    exact ⟨by first|rfl|(simp [errW_none,errW_some] <;> rfl)|(simp [*,errW_none,errW_some] <;> rfl),by repeat (first|(with_reducible first|exact HB.out|apply below_alloc|apply pw_below_drewN|apply below_drew1|refine below_set ?_ GE304.out)|exact HB.out)⟩
   ·replace c6:=Bool.eq_false_iff.mpr c6
    subst c6
    have H1 : (if a0=3 then (if a1_0=0 then (some (decide ((a1_1.size : Int)≤60))) else (some false)) else (some false))=some r:=by rw [if_neg (show ¬ (false=true) by decide)] at H;exact H
    clear H
    have H:=H1
    clear H1
    by_cases c8 : a0=3
    ·rw [if_pos c8] at H
     have c8b0 : (a0 == 3)=true:=beq_iff_eq.mpr c8
     have c8b1 : (a0 != 3)=false:=bne_eq_false_iff_eq.mpr c8
     clear c8
     by_cases c9 : a1_0=0
     ·rw [if_pos c9] at H
      have c9b0 : (a1_0 == 0)=true:=beq_iff_eq.mpr c9
      have c9b1 : (a1_0 != 0)=false:=bne_eq_false_iff_eq.mpr c9
      clear c9
      obtain rfl:=Option.some.inj H
      have hcz10_0 : wc.cell? ⟨gb304,0,none⟩=some (.int .i64 a1_0):=(blk_cell BK304.out 0).trans rfl
      have hcz10_1 : wc.cell? ⟨gb304,1,none⟩=some (.string a1_1):=(blk_cell BK304.out 1).trans rfl
      have hfz10_0:=blk_frozen BK304.out 0
      have hfz10_1:=blk_frozen BK304.out 1
      go_wp2
      go_ret
      exact ⟨by first|rfl|(simp [errW_none,errW_some] <;> rfl)|(simp [*,errW_none,errW_some] <;> rfl),by repeat (first|(with_reducible first|exact HB.out|apply below_alloc|apply pw_below_drewN|apply below_drew1|refine below_set ?_ GE304.out)|exact HB.out)⟩
     ·rw [if_neg c9] at H
      have c9b0 : (a1_0 == 0)=false:=beq_eq_false_iff_ne.mpr c9
      have c9b1 : (a1_0 != 0)=true:=bne_iff_ne.mpr c9
      obtain rfl:=Option.some.inj H
      have hcz11_0 : wc.cell? ⟨gb304,0,none⟩=some (.int .i64 a1_0):=(blk_cell BK304.out 0).trans rfl
      have hcz11_1 : wc.cell? ⟨gb304,1,none⟩=some (.string a1_1):=(blk_cell BK304.out 1).trans rfl
      have hfz11_0:=blk_frozen BK304.out 0
      have hfz11_1:=blk_frozen BK304.out 1
      go_wp2
      go_ret
      exact ⟨by first|rfl|(simp [errW_none,errW_some] <;> rfl)|(simp [*,errW_none,errW_some] <;> rfl),by repeat (first|(with_reducible first|exact HB.out|apply below_alloc|apply pw_below_drewN|apply below_drew1|refine below_set ?_ GE304.out)|exact HB.out)⟩
    ·rw [if_neg c8] at H
     have c8b0 : (a0 == 3)=false:=beq_eq_false_iff_ne.mpr c8
     have c8b1 : (a0 != 3)=true:=bne_iff_ne.mpr c8
     obtain rfl:=Option.some.inj H
     go_wp2
     go_ret
     exact ⟨by first|rfl|(simp [errW_none,errW_some] <;> rfl)|(simp [*,errW_none,errW_some] <;> rfl),by repeat (first|(with_reducible first|exact HB.out|apply below_alloc|apply pw_below_drewN|apply below_drew1|refine below_set ?_ GE304.out)|exact HB.out)⟩
def cmp_isNaN_uint64.f (a0 : Int) : Option (Bool):=some (a0 != a0)
set_option maxHeartbeats 8000000 in
set_option maxRecDepth 100000 in
theorem cmp_isNaN_uint64.calls (a0 : Int) (r : Bool) (w : World) (h : cmp_isNaN_uint64.f a0=some r) :
  Calls Try.prog 49 #[.int .u64 a0] w fun e w'=>e=.returned (.bool r)∧Drawn0 w w':=by
 have H : (some (a0 != a0))=some r:=h
 clear h
 obtain rfl:=Option.some.inj H
 go_enter Try.func49,Try.ntmps49
 go_wp2
 go_ret
 exact ⟨by first|rfl|(simp;done)|(simp [*];done),by repeat (first|exact Drawn0.refl _|apply Drawn0.step)⟩
def cmp_Compare_uint64.f (a0 : Int) (a1 : Int) : Option (Int):=(cmp_isNaN_uint64.f a0).bind fun t305=>((cmp_isNaN_uint64.f a1).bind fun t306=>(if t305=true then (if t306=true then (some 0) else (some (-1))) else (if t306=true then (some 1) else (if a0 < a1 then (some (-1)) else (if a0 > a1 then (some 1) else (some 0))))))
set_option maxHeartbeats 8000000 in
set_option maxRecDepth 100000 in
theorem cmp_Compare_uint64.calls (a0 : Int) (a1 : Int) (r : Int) (w : World) (h : cmp_Compare_uint64.f a0 a1=some r) :
  Calls Try.prog 43 #[.int .u64 a0,.int .u64 a1] w fun e w'=>e=.returned (.int .i64 r)∧Drawn0 w w':=by
 have H : ((cmp_isNaN_uint64.f a0).bind fun t305=>((cmp_isNaN_uint64.f a1).bind fun t306=>(if t305=true then (if t306=true then (some 0) else (some (-1))) else (if t306=true then (some 1) else (if a0 < a1 then (some (-1)) else (if a0 > a1 then (some 1) else (some 0)))))))=some r:=h
 clear h
 replace H:=Option.bind_eq_some_iff.mp H
 obtain ⟨t305,A30,H⟩:=H
 replace H : ((cmp_isNaN_uint64.f a1).bind fun t306=>(if t305=true then (if t306=true then (some 0) else (some (-1))) else (if t306=true then (some 1) else (if a0 < a1 then (some (-1)) else (if a0 > a1 then (some 1) else (some 0))))))=some r:=H
 have A3:=Aside0.mk A30
 clear A30
 replace H:=Option.bind_eq_some_iff.mp H
 obtain ⟨t306,A40,H⟩:=H
 replace H : (if t305=true then (if t306=true then (some 0) else (some (-1))) else (if t306=true then (some 1) else (if a0 < a1 then (some (-1)) else (if a0 > a1 then (some 1) else (some 0)))))=some r:=H
 have A4:=Aside0.mk A40
 clear A40
 by_cases c5 : t305=true
 ·subst c5
  have H1 : (if t306=true then (some 0) else (some (-1)))=some r:=by rw [if_pos rfl] at H;exact H
  clear H
  have H:=H1
  clear H1
  by_cases c6 : t306=true
  ·subst c6
   have H1 : (some 0)=some r:=by rw [if_pos rfl] at H;exact H
   clear H
   have H:=H1
   clear H1
   obtain rfl:=Option.some.inj H
   go_enter Try.func43,Try.ntmps43
   go_wp2_with (first|((with_reducible refine gate_callee (f:=49) rfl ?_);refine goesL_ (some 8) rfl rfl Try.func49 (by kernel_rfl) rfl #[.int .u64 a0] rfl (by (try simp only [List.map_toArray,List.map_cons,List.map_nil]);first|done|rfl|(simp only [List.length_drop,List.length_take];rfl)) ?_;(with_reducible refine (cmp_isNaN_uint64.calls a0 true _ A3.out).mono ?_);rintro e w' ⟨rfl,⟨nd,rfl⟩⟩;refine ⟨_,rfl,?_⟩)|((with_reducible refine gate_callee (f:=49) rfl ?_);refine goesL_ (some 10) rfl rfl Try.func49 (by kernel_rfl) rfl #[.int .u64 a1] rfl (by (try simp only [List.map_toArray,List.map_cons,List.map_nil]);first|done|rfl|(simp only [List.length_drop,List.length_take];rfl)) ?_;(with_reducible refine (cmp_isNaN_uint64.calls a1 true _ A4.out).mono ?_);rintro e w' ⟨rfl,⟨nd,rfl⟩⟩;refine ⟨_,rfl,?_⟩))
   go_ret
   exact ⟨by first|rfl|(simp;done)|(simp [*];done),by repeat (first|exact Drawn0.refl _|apply Drawn0.step)⟩
  ·replace c6:=Bool.eq_false_iff.mpr c6
   subst c6
   have H1 : (some (-1))=some r:=by rw [if_neg (show ¬ (false=true) by decide)] at H;exact H
   clear H
   have H:=H1
   clear H1
   obtain rfl:=Option.some.inj H
   go_enter Try.func43,Try.ntmps43
   go_wp2_with (first|((with_reducible refine gate_callee (f:=49) rfl ?_);refine goesL_ (some 8) rfl rfl Try.func49 (by kernel_rfl) rfl #[.int .u64 a0] rfl (by (try simp only [List.map_toArray,List.map_cons,List.map_nil]);first|done|rfl|(simp only [List.length_drop,List.length_take];rfl)) ?_;(with_reducible refine (cmp_isNaN_uint64.calls a0 true _ A3.out).mono ?_);rintro e w' ⟨rfl,⟨nd,rfl⟩⟩;refine ⟨_,rfl,?_⟩)|((with_reducible refine gate_callee (f:=49) rfl ?_);refine goesL_ (some 10) rfl rfl Try.func49 (by kernel_rfl) rfl #[.int .u64 a1] rfl (by (try simp only [List.map_toArray,List.map_cons,List.map_nil]);first|done|rfl|(simp only [List.length_drop,List.length_take];rfl)) ?_;(with_reducible refine (cmp_isNaN_uint64.calls a1 false _ A4.out).mono ?_);rintro e w' ⟨rfl,⟨nd,rfl⟩⟩;refine ⟨_,rfl,?_⟩))
   go_ret
   exact ⟨by first|rfl|(simp;done)|(simp [*];done),by repeat (first|exact Drawn0.refl _|apply Drawn0.step)⟩
 ·replace c5:=Bool.eq_false_iff.mpr c5
  subst c5
  have H1 : (if t306=true then (some 1) else (if a0 < a1 then (some (-1)) else (if a0 > a1 then (some 1) else (some 0))))=some r:=by rw [if_neg (show ¬ (false=true) by decide)] at H;exact H
  clear H
  have H:=H1
  clear H1
  by_cases c7 : t306=true
  ·subst c7
   have H1 : (some 1)=some r:=by rw [if_pos rfl] at H;exact H
   clear H
   have H:=H1
   clear H1
   obtain rfl:=Option.some.inj H
   go_enter Try.func43,Try.ntmps43
   go_wp2_with (first|((with_reducible refine gate_callee (f:=49) rfl ?_);refine goesL_ (some 8) rfl rfl Try.func49 (by kernel_rfl) rfl #[.int .u64 a0] rfl (by (try simp only [List.map_toArray,List.map_cons,List.map_nil]);first|done|rfl|(simp only [List.length_drop,List.length_take];rfl)) ?_;(with_reducible refine (cmp_isNaN_uint64.calls a0 false _ A3.out).mono ?_);rintro e w' ⟨rfl,⟨nd,rfl⟩⟩;refine ⟨_,rfl,?_⟩)|((with_reducible refine gate_callee (f:=49) rfl ?_);refine goesL_ (some 10) rfl rfl Try.func49 (by kernel_rfl) rfl #[.int .u64 a1] rfl (by (try simp only [List.map_toArray,List.map_cons,List.map_nil]);first|done|rfl|(simp only [List.length_drop,List.length_take];rfl)) ?_;(with_reducible refine (cmp_isNaN_uint64.calls a1 true _ A4.out).mono ?_);rintro e w' ⟨rfl,⟨nd,rfl⟩⟩;refine ⟨_,rfl,?_⟩))
   go_ret
   exact ⟨by first|rfl|(simp;done)|(simp [*];done),by repeat (first|exact Drawn0.refl _|apply Drawn0.step)⟩
  ·replace c7:=Bool.eq_false_iff.mpr c7
   subst c7
   have H1 : (if a0 < a1 then (some (-1)) else (if a0 > a1 then (some 1) else (some 0)))=some r:=by rw [if_neg (show ¬ (false=true) by decide)] at H;exact H
   clear H
   have H:=H1
   clear H1
   by_cases c8 : a0 < a1
   ·rw [if_pos c8] at H
    have c8b0 : decide (a0 < a1)=true:=decide_eq_true c8
    clear c8
    obtain rfl:=Option.some.inj H
    go_enter Try.func43,Try.ntmps43
    go_wp2_with (first|((with_reducible refine gate_callee (f:=49) rfl ?_);refine goesL_ (some 8) rfl rfl Try.func49 (by kernel_rfl) rfl #[.int .u64 a0] rfl (by (try simp only [List.map_toArray,List.map_cons,List.map_nil]);first|done|rfl|(simp only [List.length_drop,List.length_take];rfl)) ?_;(with_reducible refine (cmp_isNaN_uint64.calls a0 false _ A3.out).mono ?_);rintro e w' ⟨rfl,⟨nd,rfl⟩⟩;refine ⟨_,rfl,?_⟩)|((with_reducible refine gate_callee (f:=49) rfl ?_);refine goesL_ (some 10) rfl rfl Try.func49 (by kernel_rfl) rfl #[.int .u64 a1] rfl (by (try simp only [List.map_toArray,List.map_cons,List.map_nil]);first|done|rfl|(simp only [List.length_drop,List.length_take];rfl)) ?_;(with_reducible refine (cmp_isNaN_uint64.calls a1 false _ A4.out).mono ?_);rintro e w' ⟨rfl,⟨nd,rfl⟩⟩;refine ⟨_,rfl,?_⟩))
    go_ret
    exact ⟨by first|rfl|(simp;done)|(simp [*];done),by repeat (first|exact Drawn0.refl _|apply Drawn0.step)⟩
   ·rw [if_neg c8] at H
    have c8b0 : decide (a0 < a1)=false:=decide_eq_false c8
    clear c8
    by_cases c9 : a0 > a1
    ·rw [if_pos c9] at H
     have c9b0 : decide (a1 < a0)=true:=decide_eq_true c9
     clear c9
     obtain rfl:=Option.some.inj H
     go_enter Try.func43,Try.ntmps43
     go_wp2_with (first|((with_reducible refine gate_callee (f:=49) rfl ?_);refine goesL_ (some 8) rfl rfl Try.func49 (by kernel_rfl) rfl #[.int .u64 a0] rfl (by (try simp only [List.map_toArray,List.map_cons,List.map_nil]);first|done|rfl|(simp only [List.length_drop,List.length_take];rfl)) ?_;(with_reducible refine (cmp_isNaN_uint64.calls a0 false _ A3.out).mono ?_);rintro e w' ⟨rfl,⟨nd,rfl⟩⟩;refine ⟨_,rfl,?_⟩)|((with_reducible refine gate_callee (f:=49) rfl ?_);refine goesL_ (some 10) rfl rfl Try.func49 (by kernel_rfl) rfl #[.int .u64 a1] rfl (by (try simp only [List.map_toArray,List.map_cons,List.map_nil]);first|done|rfl|(simp only [List.length_drop,List.length_take];rfl)) ?_;(with_reducible refine (cmp_isNaN_uint64.calls a1 false _ A4.out).mono ?_);rintro e w' ⟨rfl,⟨nd,rfl⟩⟩;refine ⟨_,rfl,?_⟩))
     go_ret
     exact ⟨by first|rfl|(simp;done)|(simp [*];done),by repeat (first|exact Drawn0.refl _|apply Drawn0.step)⟩
    ·rw [if_neg c9] at H
     have c9b0 : decide (a1 < a0)=false:=decide_eq_false c9
     clear c9
     obtain rfl:=Option.some.inj H
     go_enter Try.func43,Try.ntmps43
     go_wp2_with (first|((with_reducible refine gate_callee (f:=49) rfl ?_);refine goesL_ (some 8) rfl rfl Try.func49 (by kernel_rfl) rfl #[.int .u64 a0] rfl (by (try simp only [List.map_toArray,List.map_cons,List.map_nil]);first|done|rfl|(simp only [List.length_drop,List.length_take];rfl)) ?_;(with_reducible refine (cmp_isNaN_uint64.calls a0 false _ A3.out).mono ?_);rintro e w' ⟨rfl,⟨nd,rfl⟩⟩;refine ⟨_,rfl,?_⟩)|((with_reducible refine gate_callee (f:=49) rfl ?_);refine goesL_ (some 10) rfl rfl Try.func49 (by kernel_rfl) rfl #[.int .u64 a1] rfl (by (try simp only [List.map_toArray,List.map_cons,List.map_nil]);first|done|rfl|(simp only [List.length_drop,List.length_take];rfl)) ?_;(with_reducible refine (cmp_isNaN_uint64.calls a1 false _ A4.out).mono ?_);rintro e w' ⟨rfl,⟨nd,rfl⟩⟩;refine ⟨_,rfl,?_⟩))
     go_ret
     exact ⟨by first|rfl|(simp;done)|(simp [*];done),by repeat (first|exact Drawn0.refl _|apply Drawn0.step)⟩
def cmp_isNaN_int64.f (a0 : Int) : Option (Bool):=some (a0 != a0)
set_option maxHeartbeats 8000000 in
set_option maxRecDepth 100000 in
theorem cmp_isNaN_int64.calls (a0 : Int) (r : Bool) (w : World) (h : cmp_isNaN_int64.f a0=some r) :
  Calls Try.prog 50 #[.int .i64 a0] w fun e w'=>e=.returned (.bool r)∧Drawn0 w w':=by
 have H : (some (a0 != a0))=some r:=h
 clear h
 obtain rfl:=Option.some.inj H
 go_enter Try.func50,Try.ntmps50
 go_wp2
 go_ret
 exact ⟨by first|rfl|(simp;done)|(simp [*];done),by repeat (first|exact Drawn0.refl _|apply Drawn0.step)⟩
def cmp_Compare_int64.f (a0 : Int) (a1 : Int) : Option (Int):=(cmp_isNaN_int64.f a0).bind fun t307=>((cmp_isNaN_int64.f a1).bind fun t308=>(if t307=true then (if t308=true then (some 0) else (some (-1))) else (if t308=true then (some 1) else (if a0 < a1 then (some (-1)) else (if a0 > a1 then (some 1) else (some 0))))))
set_option maxHeartbeats 8000000 in
set_option maxRecDepth 100000 in
theorem cmp_Compare_int64.calls (a0 : Int) (a1 : Int) (r : Int) (w : World) (h : cmp_Compare_int64.f a0 a1=some r) :
  Calls Try.prog 44 #[.int .i64 a0,.int .i64 a1] w fun e w'=>e=.returned (.int .i64 r)∧Drawn0 w w':=by
 have H : ((cmp_isNaN_int64.f a0).bind fun t307=>((cmp_isNaN_int64.f a1).bind fun t308=>(if t307=true then (if t308=true then (some 0) else (some (-1))) else (if t308=true then (some 1) else (if a0 < a1 then (some (-1)) else (if a0 > a1 then (some 1) else (some 0)))))))=some r:=h
 clear h
 replace H:=Option.bind_eq_some_iff.mp H
 obtain ⟨t307,A30,H⟩:=H
 replace H : ((cmp_isNaN_int64.f a1).bind fun t308=>(if t307=true then (if t308=true then (some 0) else (some (-1))) else (if t308=true then (some 1) else (if a0 < a1 then (some (-1)) else (if a0 > a1 then (some 1) else (some 0))))))=some r:=H
 have A3:=Aside0.mk A30
 clear A30
 replace H:=Option.bind_eq_some_iff.mp H
 obtain ⟨t308,A40,H⟩:=H
 replace H : (if t307=true then (if t308=true then (some 0) else (some (-1))) else (if t308=true then (some 1) else (if a0 < a1 then (some (-1)) else (if a0 > a1 then (some 1) else (some 0)))))=some r:=H
 have A4:=Aside0.mk A40
 clear A40
 by_cases c5 : t307=true
 ·subst c5
  have H1 : (if t308=true then (some 0) else (some (-1)))=some r:=by rw [if_pos rfl] at H;exact H
  clear H
  have H:=H1
  clear H1
  by_cases c6 : t308=true
  ·subst c6
   have H1 : (some 0)=some r:=by rw [if_pos rfl] at H;exact H
   clear H
   have H:=H1
   clear H1
   obtain rfl:=Option.some.inj H
   go_enter Try.func44,Try.ntmps44
   go_wp2_with (first|((with_reducible refine gate_callee (f:=50) rfl ?_);refine goesL_ (some 8) rfl rfl Try.func50 (by kernel_rfl) rfl #[.int .i64 a0] rfl (by (try simp only [List.map_toArray,List.map_cons,List.map_nil]);first|done|rfl|(simp only [List.length_drop,List.length_take];rfl)) ?_;(with_reducible refine (cmp_isNaN_int64.calls a0 true _ A3.out).mono ?_);rintro e w' ⟨rfl,⟨nd,rfl⟩⟩;refine ⟨_,rfl,?_⟩)|((with_reducible refine gate_callee (f:=50) rfl ?_);refine goesL_ (some 10) rfl rfl Try.func50 (by kernel_rfl) rfl #[.int .i64 a1] rfl (by (try simp only [List.map_toArray,List.map_cons,List.map_nil]);first|done|rfl|(simp only [List.length_drop,List.length_take];rfl)) ?_;(with_reducible refine (cmp_isNaN_int64.calls a1 true _ A4.out).mono ?_);rintro e w' ⟨rfl,⟨nd,rfl⟩⟩;refine ⟨_,rfl,?_⟩))
   go_ret
   exact ⟨by first|rfl|(simp;done)|(simp [*];done),by repeat (first|exact Drawn0.refl _|apply Drawn0.step)⟩
  ·replace c6:=Bool.eq_false_iff.mpr c6
   subst c6
   have H1 : (some (-1))=some r:=by rw [if_neg (show ¬ (false=true) by decide)] at H;exact H
   clear H
   have H:=H1
   clear H1
   obtain rfl:=Option.some.inj H
   go_enter Try.func44,Try.ntmps44
   go_wp2_with (first|((with_reducible refine gate_callee (f:=50) rfl ?_);refine goesL_ (some 8) rfl rfl Try.func50 (by kernel_rfl) rfl #[.int .i64 a0] rfl (by (try simp only [List.map_toArray,List.map_cons,List.map_nil]);first|done|rfl|(simp only [List.length_drop,List.length_take];rfl)) ?_;(with_reducible refine (cmp_isNaN_int64.calls a0 true _ A3.out).mono ?_);rintro e w' ⟨rfl,⟨nd,rfl⟩⟩;refine ⟨_,rfl,?_⟩)|((with_reducible refine gate_callee (f:=50) rfl ?_);refine goesL_ (some 10) rfl rfl Try.func50 (by kernel_rfl) rfl #[.int .i64 a1] rfl (by (try simp only [List.map_toArray,List.map_cons,List.map_nil]);first|done|rfl|(simp only [List.length_drop,List.length_take];rfl)) ?_;(with_reducible refine (cmp_isNaN_int64.calls a1 false _ A4.out).mono ?_);rintro e w' ⟨rfl,⟨nd,rfl⟩⟩;refine ⟨_,rfl,?_⟩))
   go_ret
   exact ⟨by first|rfl|(simp;done)|(simp [*];done),by repeat (first|exact Drawn0.refl _|apply Drawn0.step)⟩
 ·replace c5:=Bool.eq_false_iff.mpr c5
  subst c5
  have H1 : (if t308=true then (some 1) else (if a0 < a1 then (some (-1)) else (if a0 > a1 then (some 1) else (some 0))))=some r:=by rw [if_neg (show ¬ (false=true) by decide)] at H;exact H
  clear H
  have H:=H1
  clear H1
  by_cases c7 : t308=true
  ·subst c7
   have H1 : (some 1)=some r:=by rw [if_pos rfl] at H;exact H
   clear H
   have H:=H1
   clear H1
   obtain rfl:=Option.some.inj H
   go_enter Try.func44,Try.ntmps44
   go_wp2_with (first|((with_reducible refine gate_callee (f:=50) rfl ?_);refine goesL_ (some 8) rfl rfl Try.func50 (by kernel_rfl) rfl #[.int .i64 a0] rfl (by (try simp only [List.map_toArray,List.map_cons,List.map_nil]);first|done|rfl|(simp only [List.length_drop,List.length_take];rfl)) ?_;(with_reducible refine (cmp_isNaN_int64.calls a0 false _ A3.out).mono ?_);rintro e w' ⟨rfl,⟨nd,rfl⟩⟩;refine ⟨_,rfl,?_⟩)|((with_reducible refine gate_callee (f:=50) rfl ?_);refine goesL_ (some 10) rfl rfl Try.func50 (by kernel_rfl) rfl #[.int .i64 a1] rfl (by (try simp only [List.map_toArray,List.map_cons,List.map_nil]);first|done|rfl|(simp only [List.length_drop,List.length_take];rfl)) ?_;(with_reducible refine (cmp_isNaN_int64.calls a1 true _ A4.out).mono ?_);rintro e w' ⟨rfl,⟨nd,rfl⟩⟩;refine ⟨_,rfl,?_⟩))
   go_ret
   exact ⟨by first|rfl|(simp;done)|(simp [*];done),by repeat (first|exact Drawn0.refl _|apply Drawn0.step)⟩
  ·replace c7:=Bool.eq_false_iff.mpr c7
   subst c7
   have H1 : (if a0 < a1 then (some (-1)) else (if a0 > a1 then (some 1) else (some 0)))=some r:=by rw [if_neg (show ¬ (false=true) by decide)] at H;exact H
   clear H
   have H:=H1
   clear H1
   by_cases c8 : a0 < a1
   ·rw [if_pos c8] at H
    have c8b0 : decide (a0 < a1)=true:=decide_eq_true c8
    clear c8
    obtain rfl:=Option.some.inj H
    go_enter Try.func44,Try.ntmps44
    go_wp2_with (first|((with_reducible refine gate_callee (f:=50) rfl ?_);refine goesL_ (some 8) rfl rfl Try.func50 (by kernel_rfl) rfl #[.int .i64 a0] rfl (by (try simp only [List.map_toArray,List.map_cons,List.map_nil]);first|done|rfl|(simp only [List.length_drop,List.length_take];rfl)) ?_;(with_reducible refine (cmp_isNaN_int64.calls a0 false _ A3.out).mono ?_);rintro e w' ⟨rfl,⟨nd,rfl⟩⟩;refine ⟨_,rfl,?_⟩)|((with_reducible refine gate_callee (f:=50) rfl ?_);refine goesL_ (some 10) rfl rfl Try.func50 (by kernel_rfl) rfl #[.int .i64 a1] rfl (by (try simp only [List.map_toArray,List.map_cons,List.map_nil]);first|done|rfl|(simp only [List.length_drop,List.length_take];rfl)) ?_;(with_reducible refine (cmp_isNaN_int64.calls a1 false _ A4.out).mono ?_);rintro e w' ⟨rfl,⟨nd,rfl⟩⟩;refine ⟨_,rfl,?_⟩))
    go_ret
    exact ⟨by first|rfl|(simp;done)|(simp [*];done),by repeat (first|exact Drawn0.refl _|apply Drawn0.step)⟩
   ·rw [if_neg c8] at H
    have c8b0 : decide (a0 < a1)=false:=decide_eq_false c8
    clear c8
    by_cases c9 : a0 > a1
    ·rw [if_pos c9] at H
     have c9b0 : decide (a1 < a0)=true:=decide_eq_true c9
     clear c9
     obtain rfl:=Option.some.inj H
     go_enter Try.func44,Try.ntmps44
     go_wp2_with (first|((with_reducible refine gate_callee (f:=50) rfl ?_);refine goesL_ (some 8) rfl rfl Try.func50 (by kernel_rfl) rfl #[.int .i64 a0] rfl (by (try simp only [List.map_toArray,List.map_cons,List.map_nil]);first|done|rfl|(simp only [List.length_drop,List.length_take];rfl)) ?_;(with_reducible refine (cmp_isNaN_int64.calls a0 false _ A3.out).mono ?_);rintro e w' ⟨rfl,⟨nd,rfl⟩⟩;refine ⟨_,rfl,?_⟩)|((with_reducible refine gate_callee (f:=50) rfl ?_);refine goesL_ (some 10) rfl rfl Try.func50 (by kernel_rfl) rfl #[.int .i64 a1] rfl (by (try simp only [List.map_toArray,List.map_cons,List.map_nil]);first|done|rfl|(simp only [List.length_drop,List.length_take];rfl)) ?_;(with_reducible refine (cmp_isNaN_int64.calls a1 false _ A4.out).mono ?_);rintro e w' ⟨rfl,⟨nd,rfl⟩⟩;refine ⟨_,rfl,?_⟩))
     go_ret
     exact ⟨by first|rfl|(simp;done)|(simp [*];done),by repeat (first|exact Drawn0.refl _|apply Drawn0.step)⟩
    ·rw [if_neg c9] at H
     have c9b0 : decide (a1 < a0)=false:=decide_eq_false c9
     clear c9
     obtain rfl:=Option.some.inj H
     go_enter Try.func44,Try.ntmps44
     go_wp2_with (first|((with_reducible refine gate_callee (f:=50) rfl ?_);refine goesL_ (some 8) rfl rfl Try.func50 (by kernel_rfl) rfl #[.int .i64 a0] rfl (by (try simp only [List.map_toArray,List.map_cons,List.map_nil]);first|done|rfl|(simp only [List.length_drop,List.length_take];rfl)) ?_;(with_reducible refine (cmp_isNaN_int64.calls a0 false _ A3.out).mono ?_);rintro e w' ⟨rfl,⟨nd,rfl⟩⟩;refine ⟨_,rfl,?_⟩)|((with_reducible refine gate_callee (f:=50) rfl ?_);refine goesL_ (some 10) rfl rfl Try.func50 (by kernel_rfl) rfl #[.int .i64 a1] rfl (by (try simp only [List.map_toArray,List.map_cons,List.map_nil]);first|done|rfl|(simp only [List.length_drop,List.length_take];rfl)) ?_;(with_reducible refine (cmp_isNaN_int64.calls a1 false _ A4.out).mono ?_);rintro e w' ⟨rfl,⟨nd,rfl⟩⟩;refine ⟨_,rfl,?_⟩))
     go_ret
     exact ⟨by first|rfl|(simp;done)|(simp [*];done),by repeat (first|exact Drawn0.refl _|apply Drawn0.step)⟩
end Go.Proofs.Ytfiandejapgkoaa.P

