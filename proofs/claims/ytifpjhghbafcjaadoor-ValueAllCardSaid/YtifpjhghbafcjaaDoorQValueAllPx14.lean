/- Texts of ValueAll. Merged: Px14. -/
import Derived.Test.YtifpjhghbafcjaaDoorQValueAllPx0
namespace Go.Proofs.YtifpjhghbafcjaaDoor.P
open Go.RowKit Go.Proofs.YtifpjhghbafcjaaDoorW.PrintWords Go.Proofs.YtifpjhghbafcjaaDoorW.PrintLast Go.Proofs.YtifpjhghbafcjaaDoorW.PrintMore
attribute [local go_sem] max2_int min2_int max_two min_two max_three min_three max_four min_four   -- for this text's walks alone
set_option linter.unusedVariables false
set_option linter.unusedSimpArgs false
def thresherlaw03_short.f (a0 : ByteArray) : Option (ByteArray):=if (a0.size : Int) > 200 then (if 0≤200 then (if 200≤(a0.size : Int) then (some (a0.extract 0 200)) else (none)) else (none)) else (some a0)
set_option maxHeartbeats 8000000 in
set_option maxRecDepth 100000 in
theorem thresherlaw03_short.calls (a0 : ByteArray) (r : ByteArray) (w : World) (h : thresherlaw03_short.f a0=some r) :
  Calls Tryd.prog 18 #[.string a0] w fun e w'=>e=.returned (.string r)∧Drawn0 w w':=by
 have H : (if (a0.size : Int) > 200 then (if 0≤200 then (if 200≤(a0.size : Int) then (some (a0.extract 0 200)) else (none)) else (none)) else (some a0))=some r:=h
 clear h
 by_cases c2 : (a0.size : Int) > 200
 ·rw [if_pos c2] at H
  have c2b0 : decide (200 < (a0.size : Int))=true:=decide_eq_true c2
  have c2b1 : decide (200 < a0.size)=true:=decide_eq_true (by omega)
  clear c2
  by_cases c3 : 0≤200
  ·rw [if_pos c3] at H
   have c3b0:=eq_true c3
   have c3b1 : decide (0≤200)=true:=decide_eq_true c3
   clear c3
   by_cases c4 : 200≤(a0.size : Int)
   ·rw [if_pos c4] at H
    have c4b0:=eq_true c4
    have c4b1 : decide (200≤(a0.size : Int))=true:=decide_eq_true c4
    clear c4
    obtain rfl:=Option.some.inj H
    go_enter Tryd.func18,Tryd.ntmps18
    go_wp2
    go_ret
    exact ⟨by first|rfl|(simp;done)|(simp [*];done),by repeat (first|exact Drawn0.refl _|apply Drawn0.step)⟩
   ·rw [if_neg c4] at H
    exact absurd H (by simp)
  ·rw [if_neg c3] at H
   exact absurd H (by simp)
 ·rw [if_neg c2] at H
  have c2b0 : decide (200 < (a0.size : Int))=false:=decide_eq_false c2
  have c2b1 : decide (200 < a0.size)=false:=decide_eq_false (by omega)
  clear c2
  obtain rfl:=Option.some.inj H
  go_enter Tryd.func18,Tryd.ntmps18
  go_wp2
  go_ret
  exact ⟨by first|rfl|(simp;done)|(simp [*];done),by repeat (first|exact Drawn0.refl _|apply Drawn0.step)⟩
def thresherref03_Fits.j0 : Nat→Int→Bool→Int→ByteArray→Option (Bool)
 | 0,_,_,_,_=>none
 | k + 1,x5,x6,x258000,x258001=>if x6=true then (some (x258001.toList == ([] : List UInt8))) else (if x5=3 then (if x258000=0 then (some (decide ((x258001.size : Int)≤60))) else (some false)) else (some false))
def thresherref03_Fits.f (k : Nat) (a0 : Int) (a1_0 : Int) (a1_1 : ByteArray) : Option (Bool):=if a0=1 then (thresherref03_Fits.j0 k a0 (a0 == 1) a1_0 a1_1) else (thresherref03_Fits.j0 k a0 (a0 == 2) a1_0 a1_1)
theorem thresherref03_Fits.mono_l : ∀ k,(∀ y0 y1 y2 y3,LeO (thresherref03_Fits.j0 k y0 y1 y2 y3) (thresherref03_Fits.j0 (k + 1) y0 y1 y2 y3))
 | 0=>fun _ _ _ _ r h=>by simp [thresherref03_Fits.j0] at h
 | k + 1=>by
  have ih0:=thresherref03_Fits.mono_l k
  ·intro y0 y1 y2 y3
   unfold thresherref03_Fits.j0
   repeat' first
   | (with_reducible exact ih0 _ _ _ _)
   | (with_reducible exact LeO.refl _)
   | (with_reducible exact LeO.none _)
   | (with_reducible refine LeO.ite ?_ ?_)
   | (with_reducible refine LeO.bind ?_ (fun _=>?_))
   | exact ih0 _ _ _ _
   | exact LeO.none _
   | refine LeO.ite ?_ ?_
   | refine LeO.bind ?_ (fun _=>?_)
theorem thresherref03_Fits.mono : ∀ a0 a1 a2 k,LeO (thresherref03_Fits.f k a0 a1 a2) (thresherref03_Fits.f (k + 1) a0 a1 a2):=by
 intro a0 a1 a2 k
 have ih0:=thresherref03_Fits.mono_l k
 unfold thresherref03_Fits.f
 repeat' first
   | (with_reducible exact ih0 _ _ _ _)
   | (with_reducible exact LeO.refl _)
   | (with_reducible exact LeO.none _)
   | (with_reducible refine LeO.ite ?_ ?_)
   | (with_reducible refine LeO.bind ?_ (fun _=>?_))
   | exact ih0 _ _ _ _
   | exact LeO.none _
   | refine LeO.ite ?_ ?_
   | refine LeO.bind ?_ (fun _=>?_)
set_option maxHeartbeats 8000000 in
set_option maxRecDepth 100000 in
theorem thresherref03_Fits.calls (k : Nat) (a0 : Int) (a1_0 : Int) (a1_1 : ByteArray) (r : Bool) (w : World) (h : thresherref03_Fits.f k a0 a1_0 a1_1=some r) :
  Calls Tryd.prog 20 #[.int .i64 a0,.agg #[.int .i64 a1_0,.string a1_1]] w fun e w'=>e=.returned (.bool r)∧Below w.heap.size w w':=by
 have hu23:=Tryd.underlying23
 have HB:=Aside0.mk (Below.refl w.heap.size w)
 have H : (if a0=1 then (thresherref03_Fits.j0 k a0 (a0 == 1) a1_0 a1_1) else (thresherref03_Fits.j0 k a0 (a0 == 2) a1_0 a1_1))=some r:=h
 clear h
 have HC3:=Aside0.mk H
 clear H
 go_enter Tryd.func20,Tryd.ntmps20
 go_upto_if 6 with (first|((with_reducible refine gate_dst (N:=3) rfl ?_);(try (refine gate_guard (by rfl) ?_;dsimp only));refine box_event ?hg (N:=3) ?hd (cs:=#[.int .i64 a1_0,.string a1_1]) (t:=23) ?hr ?_;(case hd=>rfl);(case hg=>rfl);(case hr=>first|(go_simp;done)|(go_simp;rfl));intro gb257 hg w4 hbox hb;have n0_:=Aside0.mk (below_step (below_up HB.out) hb);have n1_:=Aside0.mk (hbox);have n2_:=Aside0.mk ((by rw [hg];exact (below_size (below_up HB.out)) : w.heap.size≤gb257));have n3_:=Aside0.mk ((by rw [hg];exact (below_size (below_up HB.out)) : w.heap.size≤gb257));clear HB;have HB:=n0_;have BK257:=n1_;have GW257:=n2_;have GE257:=n3_;clear n0_ n1_ n2_ n3_;clear hb hbox hg))
 (try simp only [Act.put,List.setIfInBounds_toArray,List.set_cons_zero,List.set_cons_succ])
 go_cut [6] (fun v6 wc=>∃ (kq : Nat) (x6_2 : Bool),v6=.bool x6_2∧Aside0 (thresherref03_Fits.j0 kq a0 x6_2 a1_0 a1_1=some r)∧Aside0 (kq≤k)∧Aside0 (wc.heap[gb257]?=some (.cells #[.int .i64 a1_0,.string a1_1] 23 (0,0)))∧Aside0 (Below w.heap.size w wc))
 case first =>
  have H:=HC3.out
  clear HC3
  by_cases c5 : a0=1
  ·rw [if_pos c5] at H
   have c5b0 : (a0 == 1)=true:=beq_iff_eq.mpr c5
   have c5b1 : (a0 != 1)=false:=bne_eq_false_iff_eq.mpr c5
   clear c5
   (first|rw [c5b0]|(simp only [i64_w,i32_w];rw [c5b0])|skip)
   have H':=Aside0.mk H
   clear H
   go_wp2
   go_meet
   case rel=>exact ⟨_,((a0 == 1)),(by first|rfl|(simp;done)|(simp [*];done)),(by first|exact H'|(subst_vars;exact H')),⟨by first|omega|exact Nat.le_refl _⟩,⟨by (with_reducible repeat (first|refine blk_drewN ?_ _|refine blk_drew ?_|refine blk_alloc ?_ _));exact BK257.out⟩,⟨by repeat (first|(with_reducible first|exact HB.out|apply below_alloc|apply pw_below_drewN|apply below_drew1|refine below_set ?_ GE257.out)|exact HB.out)⟩⟩
  ·rw [if_neg c5] at H
   have c5b0 : (a0 == 1)=false:=beq_eq_false_iff_ne.mpr c5
   have c5b1 : (a0 != 1)=true:=bne_iff_ne.mpr c5
   (first|rw [c5b0]|(simp only [i64_w,i32_w];rw [c5b0])|skip)
   have H':=Aside0.mk H
   clear H
   go_wp2
   go_meet
   case rel=>exact ⟨_,((a0 == 2)),(by first|rfl|(simp;done)|(simp [*];done)),(by first|exact H'|(subst_vars;exact H')),⟨by first|omega|exact Nat.le_refl _⟩,⟨by (with_reducible repeat (first|refine blk_drewN ?_ _|refine blk_drew ?_|refine blk_alloc ?_ _));exact BK257.out⟩,⟨by repeat (first|(with_reducible first|exact HB.out|apply below_alloc|apply pw_below_drewN|apply below_drew1|refine below_set ?_ GE257.out)|exact HB.out)⟩⟩
 case rest =>
  clear HC3
  try clear c2
  try clear p2
  try clear c5
  try clear c5b0
  try clear c5b1
  obtain ⟨kq,x6_2,rfl,HA,HJ2,BK257,HB⟩:=hcut
  cases kq with
  | zero=>exact absurd HA.out (by simp [thresherref03_Fits.j0])
  | succ kj2 =>
   have H:=HA.out
   clear HA
   simp only [thresherref03_Fits.j0] at H
   by_cases c6 : x6_2=true
   ·subst c6
    have H1 : (some (a1_1.toList == ([] : List UInt8)))=some r:=by rw [if_pos rfl] at H;exact H
    clear H
    have H:=H1
    clear H1
    obtain rfl:=Option.some.inj H
    have hcz7_0 : wc.cell? ⟨gb257,0,none⟩=some (.int .i64 a1_0):=(blk_cell BK257.out 0).trans rfl
    have hcz7_1 : wc.cell? ⟨gb257,1,none⟩=some (.string a1_1):=(blk_cell BK257.out 1).trans rfl
    have hfz7_0:=blk_frozen BK257.out 0
    have hfz7_1:=blk_frozen BK257.out 1
    go_wp2
    go_ret
    exact ⟨by first|rfl|(simp [errW_none,errW_some] <;> rfl)|(simp [*,errW_none,errW_some] <;> rfl),by repeat (first|(with_reducible first|exact HB.out|apply below_alloc|apply pw_below_drewN|apply below_drew1|refine below_set ?_ GE257.out)|exact HB.out)⟩
   ·replace c6:=Bool.eq_false_iff.mpr c6
    subst c6
    have H1 : (if a0=3 then (if a1_0=0 then (some (decide ((a1_1.size : Int)≤60))) else (some false)) else (some false))=some r:=by rw [if_neg (show ¬ (false=true) by decide)] at H;exact H
    clear H
    have H:=H1
    clear H1
    by_cases c8 : a0=3
    ·rw [if_pos c8] at H
     have c8b0 : (a0 == 3)=true:=beq_iff_eq.mpr c8
     have c8b1 : (a0 != 3)=false:=bne_eq_false_iff_eq.mpr c8
     clear c8
     by_cases c9 : a1_0=0
     ·rw [if_pos c9] at H
      have c9b0 : (a1_0 == 0)=true:=beq_iff_eq.mpr c9
      have c9b1 : (a1_0 != 0)=false:=bne_eq_false_iff_eq.mpr c9
      clear c9
      obtain rfl:=Option.some.inj H
      have hcz10_0 : wc.cell? ⟨gb257,0,none⟩=some (.int .i64 a1_0):=(blk_cell BK257.out 0).trans rfl
      have hcz10_1 : wc.cell? ⟨gb257,1,none⟩=some (.string a1_1):=(blk_cell BK257.out 1).trans rfl
      have hfz10_0:=blk_frozen BK257.out 0
      have hfz10_1:=blk_frozen BK257.out 1
      go_wp2
      go_ret
      exact ⟨by first|rfl|(simp [errW_none,errW_some] <;> rfl)|(simp [*,errW_none,errW_some] <;> rfl),by repeat (first|(with_reducible first|exact HB.out|apply below_alloc|apply pw_below_drewN|apply below_drew1|refine below_set ?_ GE257.out)|exact HB.out)⟩
     ·rw [if_neg c9] at H
      have c9b0 : (a1_0 == 0)=false:=beq_eq_false_iff_ne.mpr c9
      have c9b1 : (a1_0 != 0)=true:=bne_iff_ne.mpr c9
      obtain rfl:=Option.some.inj H
      have hcz11_0 : wc.cell? ⟨gb257,0,none⟩=some (.int .i64 a1_0):=(blk_cell BK257.out 0).trans rfl
      have hcz11_1 : wc.cell? ⟨gb257,1,none⟩=some (.string a1_1):=(blk_cell BK257.out 1).trans rfl
      have hfz11_0:=blk_frozen BK257.out 0
      have hfz11_1:=blk_frozen BK257.out 1
      go_wp2
      go_ret
      exact ⟨by first|rfl|(simp [errW_none,errW_some] <;> rfl)|(simp [*,errW_none,errW_some] <;> rfl),by repeat (first|(with_reducible first|exact HB.out|apply below_alloc|apply pw_below_drewN|apply below_drew1|refine below_set ?_ GE257.out)|exact HB.out)⟩
    ·rw [if_neg c8] at H
     have c8b0 : (a0 == 3)=false:=beq_eq_false_iff_ne.mpr c8
     have c8b1 : (a0 != 3)=true:=bne_iff_ne.mpr c8
     obtain rfl:=Option.some.inj H
     go_wp2
     go_ret
     exact ⟨by first|rfl|(simp [errW_none,errW_some] <;> rfl)|(simp [*,errW_none,errW_some] <;> rfl),by repeat (first|(with_reducible first|exact HB.out|apply below_alloc|apply pw_below_drewN|apply below_drew1|refine below_set ?_ GE257.out)|exact HB.out)⟩
def thresherref03_digits.l0 : Nat→Int→ByteArray→Int→Option (ByteArray)
 | 0,_,_,_=>none
 | k + 1,x0,x3,x4=>if x4 < 20 then (if 0≤(Int.tmod x0 10) then (if (Int.tmod x0 10)≤(IntKind.u64.wrap ((Int.tmod x0 10) + 1)) then (if (IntKind.u64.wrap ((Int.tmod x0 10) + 1))≤10 then (if ((⟨#[48,49,50,51,52,53,54,55,56,57]⟩ : ByteArray).extract ((Int.tmod x0 10) : Int).toNat ((IntKind.u64.wrap ((Int.tmod x0 10) + 1)) : Int).toNat).size + x3.size≤9223372036854775807 then (if (IntKind.u64.wrap (Int.tdiv x0 10))=0 then (some (((⟨#[48,49,50,51,52,53,54,55,56,57]⟩ : ByteArray).extract ((Int.tmod x0 10) : Int).toNat ((IntKind.u64.wrap ((Int.tmod x0 10) + 1)) : Int).toNat) ++ x3)) else (thresherref03_digits.l0 k (IntKind.u64.wrap (Int.tdiv x0 10)) (((⟨#[48,49,50,51,52,53,54,55,56,57]⟩ : ByteArray).extract ((Int.tmod x0 10) : Int).toNat ((IntKind.u64.wrap ((Int.tmod x0 10) + 1)) : Int).toNat) ++ x3) (wrap64 (x4 + 1)))) else (none)) else (none)) else (none)) else (none)) else (some x3)
def thresherref03_digits.f (k : Nat) (a0 : Int) : Option (ByteArray):=thresherref03_digits.l0 k a0 (⟨#[]⟩ : ByteArray) 0
theorem thresherref03_digits.mono_l : ∀ k,(∀ y0 y1 y2,LeO (thresherref03_digits.l0 k y0 y1 y2) (thresherref03_digits.l0 (k + 1) y0 y1 y2))
 | 0=>fun _ _ _ r h=>by simp [thresherref03_digits.l0] at h
 | k + 1=>by
  have ih0:=thresherref03_digits.mono_l k
  ·intro y0 y1 y2
   unfold thresherref03_digits.l0
   repeat' first
   | (with_reducible exact ih0 _ _ _)
   | (with_reducible exact LeO.refl _)
   | (with_reducible exact LeO.none _)
   | (with_reducible refine LeO.ite ?_ ?_)
   | (with_reducible refine LeO.bind ?_ (fun _=>?_))
   | exact ih0 _ _ _
   | exact LeO.none _
   | refine LeO.ite ?_ ?_
   | refine LeO.bind ?_ (fun _=>?_)
theorem thresherref03_digits.mono : ∀ a0 k,LeO (thresherref03_digits.f k a0) (thresherref03_digits.f (k + 1) a0):=by
 intro a0 k
 have ih0:=thresherref03_digits.mono_l k
 unfold thresherref03_digits.f
 repeat' first
   | (with_reducible exact ih0 _ _ _)
   | (with_reducible exact LeO.refl _)
   | (with_reducible exact LeO.none _)
   | (with_reducible refine LeO.ite ?_ ?_)
   | (with_reducible refine LeO.bind ?_ (fun _=>?_))
   | exact ih0 _ _ _
   | exact LeO.none _
   | refine LeO.ite ?_ ?_
   | refine LeO.bind ?_ (fun _=>?_)
set_option maxHeartbeats 8000000 in
set_option maxRecDepth 100000 in
theorem thresherref03_digits.calls (k : Nat) (a0 : Int) (r : ByteArray) (w : World) (h : thresherref03_digits.f k a0=some r) :
  Calls Tryd.prog 37 #[.int .u64 a0] w fun e w'=>e=.returned (.string r)∧Drawn0 w w':=by
 have H : (thresherref03_digits.l0 k a0 (⟨#[]⟩ : ByteArray) 0)=some r:=h
 clear h
 have H':=Aside0.mk H
 clear H
 go_enter Tryd.func37,Tryd.ntmps37
 go_wp2
 go_loopg [0,3,4] k (fun kq v0 v3 v4 w'=>∃ (x0_1 : Int) (x3_1 : ByteArray) (x4_1 : Int),v0=.int .u64 x0_1∧v3=.string x3_1∧v4=.int .i64 x4_1∧Aside0 (thresherref03_digits.l0 kq x0_1 x3_1 x4_1=some r)∧Aside0 (kq≤k)∧Drawn0 w w')
 case atStart=>exact ⟨(a0),((⟨#[]⟩ : ByteArray)),(0),(by first|rfl|(simp;done)|(simp [*];done)),(by first|rfl|(simp;done)|(simp [*];done)),(by first|rfl|(simp;done)|(simp [*];done)),H',⟨Nat.le_refl _⟩,by repeat (first|exact Drawn0.refl _|apply Drawn0.step)⟩
 case round =>
  clear H'
  obtain ⟨x0_1,x3_1,x4_1,rfl,rfl,rfl,HA,HK1,⟨m1,rfl⟩⟩:=hrel
  cases gk with
  | zero=>exact absurd HA.out (by simp [thresherref03_digits.l0])
  | succ k1 =>
   have H:=HA.out
   clear HA
   simp only [thresherref03_digits.l0] at H
   by_cases c2 : x4_1 < 20
   ·rw [if_pos c2] at H
    have c2b0 : decide (x4_1 < 20)=true:=decide_eq_true c2
    clear c2
    obtain ⟨ji3,hji3⟩ : ∃ j_ : Int,(Int.tmod x0_1 10)=j_:=⟨_,rfl⟩
    replace H : (if 0≤(ji3) then (if (ji3)≤(IntKind.u64.wrap ((ji3) + 1)) then (if (IntKind.u64.wrap ((ji3) + 1))≤10 then (if ((⟨#[48,49,50,51,52,53,54,55,56,57]⟩ : ByteArray).extract ((ji3) : Int).toNat ((IntKind.u64.wrap ((ji3) + 1)) : Int).toNat).size + x3_1.size≤9223372036854775807 then (if (IntKind.u64.wrap (Int.tdiv x0_1 10))=0 then (some (((⟨#[48,49,50,51,52,53,54,55,56,57]⟩ : ByteArray).extract ((ji3) : Int).toNat ((IntKind.u64.wrap ((ji3) + 1)) : Int).toNat) ++ x3_1)) else (thresherref03_digits.l0 k1 (IntKind.u64.wrap (Int.tdiv x0_1 10)) (((⟨#[48,49,50,51,52,53,54,55,56,57]⟩ : ByteArray).extract ((ji3) : Int).toNat ((IntKind.u64.wrap ((ji3) + 1)) : Int).toNat) ++ x3_1) (wrap64 (x4_1 + 1)))) else (none)) else (none)) else (none)) else (none))=some r:=by first|(rw [hji3] at H;exact H)|(simp only [hji3] at H ⊢;exact H)
    by_cases c4 : 0≤(ji3)
    ·rw [if_pos c4] at H
     have c4b0:=eq_true c4
     have c4b1 : decide (0≤(ji3))=true:=decide_eq_true c4
     clear c4
     by_cases c5 : (ji3)≤(IntKind.u64.wrap ((ji3) + 1))
     ·rw [if_pos c5] at H
      have c5b0:=eq_true c5
      have c5b1 : decide ((ji3)≤(IntKind.u64.wrap ((ji3) + 1)))=true:=decide_eq_true c5
      by_cases c6 : (IntKind.u64.wrap ((ji3) + 1))≤10
      ·rw [if_pos c6] at H
       have c6b0:=eq_true c6
       have c6b1 : decide ((IntKind.u64.wrap ((ji3) + 1))≤10)=true:=decide_eq_true c6
       by_cases c7 : ((⟨#[48,49,50,51,52,53,54,55,56,57]⟩ : ByteArray).extract ((ji3) : Int).toNat ((IntKind.u64.wrap ((ji3) + 1)) : Int).toNat).size + x3_1.size≤9223372036854775807
       ·rw [if_pos c7] at H
        have c7b0:=eq_true c7
        have c7b1 : decide (((⟨#[48,49,50,51,52,53,54,55,56,57]⟩ : ByteArray).extract ((ji3) : Int).toNat ((IntKind.u64.wrap ((ji3) + 1)) : Int).toNat).size + x3_1.size≤9223372036854775807)=true:=decide_eq_true c7
        try have c7b2 : (9223372036854775807 < ((⟨#[48,49,50,51,52,53,54,55,56,57]⟩ : ByteArray).extract ((ji3) : Int).toNat ((IntKind.u64.wrap ((ji3) + 1)) : Int).toNat).size + x3_1.size)=False:=eq_false (Nat.not_lt.2 c7)
        by_cases c8 : (IntKind.u64.wrap (Int.tdiv x0_1 10))=0
        ·rw [if_pos c8] at H
         have c8b0 : ((IntKind.u64.wrap (Int.tdiv x0_1 10)) == 0)=true:=beq_iff_eq.mpr c8
         have c8b1 : ((IntKind.u64.wrap (Int.tdiv x0_1 10)) != 0)=false:=bne_eq_false_iff_eq.mpr c8
         clear c8
         obtain rfl:=Option.some.inj H
         go_wp2
         go_ret
         exact ⟨by first|rfl|(simp;done)|(simp only [← hji3] <;> (first|rfl|simp))|(simp [*];done),by repeat (first|exact Drawn0.refl _|apply Drawn0.step)⟩
        ·rw [if_neg c8] at H
         have c8b0 : ((IntKind.u64.wrap (Int.tdiv x0_1 10)) == 0)=false:=beq_eq_false_iff_ne.mpr c8
         have c8b1 : ((IntKind.u64.wrap (Int.tdiv x0_1 10)) != 0)=true:=bne_iff_ne.mpr c8
         have H':=Aside0.mk H
         clear H
         go_wp2
         go_roundg k1
         case measure=>have:=HK1.out;omega
         case rel=>exact ⟨(IntKind.u64.wrap (Int.tdiv x0_1 10)),(((⟨#[48,49,50,51,52,53,54,55,56,57]⟩ : ByteArray).extract ((ji3) : Int).toNat ((IntKind.u64.wrap ((ji3) + 1)) : Int).toNat) ++ x3_1),(wrap64 (x4_1 + 1)),(by first|rfl|(simp;done)|(simp [*];done)),(by first|rfl|(simp;done)|(simp only [← hji3] <;> (first|rfl|simp))|(simp [*];done)),(by first|rfl|(simp;done)|(simp [*];done)),(by first|exact H'|(subst_vars;exact H')),⟨by have:=HK1.out;omega⟩,by repeat (first|exact Drawn0.refl _|apply Drawn0.step)⟩
       ·rw [if_neg c7] at H
        exact absurd H (by simp)
      ·rw [if_neg c6] at H
       exact absurd H (by simp)
     ·rw [if_neg c5] at H
      exact absurd H (by simp)
    ·rw [if_neg c4] at H
     exact absurd H (by simp)
   ·rw [if_neg c2] at H
    have c2b0 : decide (x4_1 < 20)=false:=decide_eq_false c2
    clear c2
    obtain rfl:=Option.some.inj H
    go_wp2
    go_ret
    exact ⟨by first|rfl|(simp;done)|(simp [*];done),by repeat (first|exact Drawn0.refl _|apply Drawn0.step)⟩
mutual
def thresherref03_Text.j0 : Nat→Int→Bool→Int→ByteArray→Option (ByteArray)
 | 0,_,_,_,_=>none
 | k + 1,x0,x21,x259000,x259001=>if x21=true then ((thresherref03_digits.f k (IntKind.u64.wrap (-(IntKind.u64.wrap (x259000))))).bind fun t260=>(if 1 + t260.size≤9223372036854775807 then (some ((⟨#[45]⟩ : ByteArray) ++ t260)) else (none))) else (if x0=3 then (thresherref03_Text.l0 k (⟨#[34]⟩ : ByteArray) (⟨#[48,49,50,51,52,53,54,55,56,57,97,98,99,100,101,102]⟩ : ByteArray) 0 x259000 x259001) else ((thresherref03_digits.f k (IntKind.u64.wrap (x259000))).bind fun t261=>(some t261)))
def thresherref03_Text.l0 : Nat→ByteArray→ByteArray→Int→Int→ByteArray→Option (ByteArray)
 | 0,_,_,_,_,_=>none
 | k + 1,x6,x7,x8,x259000,x259001=>if x8 < (x259001.size : Int) then (if 0≤x8 then (if (bt x259001 x8) < 32 then (thresherref03_Text.j2 k x6 x7 x8 (bt x259001 x8) true x259000 x259001) else (if (bt x259001 x8) > 126 then (thresherref03_Text.j2 k x6 x7 x8 (bt x259001 x8) true x259000 x259001) else (if (bt x259001 x8)=34 then (thresherref03_Text.j2 k x6 x7 x8 (bt x259001 x8) true x259000 x259001) else (thresherref03_Text.j2 k x6 x7 x8 (bt x259001 x8) ((bt x259001 x8) == 92) x259000 x259001)))) else (none)) else (if x6.size + 1≤9223372036854775807 then (some (x6 ++ (⟨#[34]⟩ : ByteArray))) else (none))
def thresherref03_Text.j2 : Nat→ByteArray→ByteArray→Int→Int→Bool→Int→ByteArray→Option (ByteArray)
 | 0,_,_,_,_,_,_,_=>none
 | k + 1,x6,x7,x8,x9,x58,x259000,x259001=>if x58=true then (if x6.size + 1≤9223372036854775807 then (if 0≤((Int.tdiv x9 16) % 256) then (if ((Int.tdiv x9 16) % 256)≤(((Int.tdiv x9 16) + 1) % 256) then (if (((Int.tdiv x9 16) + 1) % 256)≤(x7.size : Int) then (if (x6 ++ (⟨#[92]⟩ : ByteArray)).size + (x7.extract (((Int.tdiv x9 16) % 256) : Int).toNat ((((Int.tdiv x9 16) + 1) % 256) : Int).toNat).size≤9223372036854775807 then (if 0≤(Int.tmod x9 16) then (if (Int.tmod x9 16)≤(((Int.tmod x9 16) + 1) % 256) then (if (((Int.tmod x9 16) + 1) % 256)≤(x7.size : Int) then (if ((x6 ++ (⟨#[92]⟩ : ByteArray)) ++ (x7.extract (((Int.tdiv x9 16) % 256) : Int).toNat ((((Int.tdiv x9 16) + 1) % 256) : Int).toNat)).size + (x7.extract ((Int.tmod x9 16) : Int).toNat ((((Int.tmod x9 16) + 1) % 256) : Int).toNat).size≤9223372036854775807 then (thresherref03_Text.l0 k (((x6 ++ (⟨#[92]⟩ : ByteArray)) ++ (x7.extract (((Int.tdiv x9 16) % 256) : Int).toNat ((((Int.tdiv x9 16) + 1) % 256) : Int).toNat)) ++ (x7.extract ((Int.tmod x9 16) : Int).toNat ((((Int.tmod x9 16) + 1) % 256) : Int).toNat)) x7 (wrap64 (x8 + 1)) x259000 x259001) else (none)) else (none)) else (none)) else (none)) else (none)) else (none)) else (none)) else (none)) else (none)) else (if 0≤x8 then (if x8≤(wrap64 (x8 + 1)) then (if (wrap64 (x8 + 1))≤(x259001.size : Int) then (if x6.size + (x259001.extract (x8 : Int).toNat ((wrap64 (x8 + 1)) : Int).toNat).size≤9223372036854775807 then (thresherref03_Text.l0 k (x6 ++ (x259001.extract (x8 : Int).toNat ((wrap64 (x8 + 1)) : Int).toNat)) x7 (wrap64 (x8 + 1)) x259000 x259001) else (none)) else (none)) else (none)) else (none))
end
def thresherref03_Text.f (k : Nat) (a0 : Int) (a1_0 : Int) (a1_1 : ByteArray) : Option (ByteArray):=(thresherref03_Fits.f k a0 a1_0 a1_1).bind fun t259=>(if t259=true then (if a0=1 then (thresherref03_Text.j0 k a0 (decide (a1_0 < 0)) a1_0 a1_1) else (thresherref03_Text.j0 k a0 false a1_0 a1_1)) else (some (⟨#[]⟩ : ByteArray)))
theorem thresherref03_Text.mono_l : ∀ k,(∀ y0 y1 y2 y3,LeO (thresherref03_Text.j0 k y0 y1 y2 y3) (thresherref03_Text.j0 (k + 1) y0 y1 y2 y3))∧(∀ y0 y1 y2 y3 y4,LeO (thresherref03_Text.l0 k y0 y1 y2 y3 y4) (thresherref03_Text.l0 (k + 1) y0 y1 y2 y3 y4))∧(∀ y0 y1 y2 y3 y4 y5 y6,LeO (thresherref03_Text.j2 k y0 y1 y2 y3 y4 y5 y6) (thresherref03_Text.j2 (k + 1) y0 y1 y2 y3 y4 y5 y6))
 | 0=>⟨fun _ _ _ _ r h=>by simp [thresherref03_Text.j0] at h,fun _ _ _ _ _ r h=>by simp [thresherref03_Text.l0] at h,fun _ _ _ _ _ _ _ r h=>by simp [thresherref03_Text.j2] at h⟩
 | k + 1=>by
  obtain ⟨ih0,ih1,ih2⟩:=thresherref03_Text.mono_l k
  refine ⟨?_,?_,?_⟩
  ·intro y0 y1 y2 y3
   unfold thresherref03_Text.j0
   repeat' first
   | (with_reducible exact ih0 _ _ _ _)
   | (with_reducible exact ih1 _ _ _ _ _)
   | (with_reducible exact ih2 _ _ _ _ _ _ _)
   | (with_reducible exact thresherref03_Fits.mono _ _ _ _)
   | (with_reducible exact thresherref03_digits.mono _ _)
   | (with_reducible exact LeO.refl _)
   | (with_reducible exact LeO.none _)
   | (with_reducible refine LeO.ite ?_ ?_)
   | (with_reducible refine LeO.bind ?_ (fun _=>?_))
   | exact ih0 _ _ _ _
   | exact ih1 _ _ _ _ _
   | exact ih2 _ _ _ _ _ _ _
   | exact thresherref03_Fits.mono _ _ _ _
   | exact thresherref03_digits.mono _ _
   | exact LeO.none _
   | refine LeO.ite ?_ ?_
   | refine LeO.bind ?_ (fun _=>?_)
  ·intro y0 y1 y2 y3 y4
   unfold thresherref03_Text.l0
   repeat' first
   | (with_reducible exact ih0 _ _ _ _)
   | (with_reducible exact ih1 _ _ _ _ _)
   | (with_reducible exact ih2 _ _ _ _ _ _ _)
   | (with_reducible exact thresherref03_Fits.mono _ _ _ _)
   | (with_reducible exact thresherref03_digits.mono _ _)
   | (with_reducible exact LeO.refl _)
   | (with_reducible exact LeO.none _)
   | (with_reducible refine LeO.ite ?_ ?_)
   | (with_reducible refine LeO.bind ?_ (fun _=>?_))
   | exact ih0 _ _ _ _
   | exact ih1 _ _ _ _ _
   | exact ih2 _ _ _ _ _ _ _
   | exact thresherref03_Fits.mono _ _ _ _
   | exact thresherref03_digits.mono _ _
   | exact LeO.none _
   | refine LeO.ite ?_ ?_
   | refine LeO.bind ?_ (fun _=>?_)
  ·intro y0 y1 y2 y3 y4 y5 y6
   unfold thresherref03_Text.j2
   repeat' first
   | (with_reducible exact ih0 _ _ _ _)
   | (with_reducible exact ih1 _ _ _ _ _)
   | (with_reducible exact ih2 _ _ _ _ _ _ _)
   | (with_reducible exact thresherref03_Fits.mono _ _ _ _)
   | (with_reducible exact thresherref03_digits.mono _ _)
   | (with_reducible exact LeO.refl _)
   | (with_reducible exact LeO.none _)
   | (with_reducible refine LeO.ite ?_ ?_)
   | (with_reducible refine LeO.bind ?_ (fun _=>?_))
   | exact ih0 _ _ _ _
   | exact ih1 _ _ _ _ _
   | exact ih2 _ _ _ _ _ _ _
   | exact thresherref03_Fits.mono _ _ _ _
   | exact thresherref03_digits.mono _ _
   | exact LeO.none _
   | refine LeO.ite ?_ ?_
   | refine LeO.bind ?_ (fun _=>?_)
theorem thresherref03_Text.mono : ∀ a0 a1 a2 k,LeO (thresherref03_Text.f k a0 a1 a2) (thresherref03_Text.f (k + 1) a0 a1 a2):=by
 intro a0 a1 a2 k
 obtain ⟨ih0,ih1,ih2⟩:=thresherref03_Text.mono_l k
 unfold thresherref03_Text.f
 repeat' first
   | (with_reducible exact ih0 _ _ _ _)
   | (with_reducible exact ih1 _ _ _ _ _)
   | (with_reducible exact ih2 _ _ _ _ _ _ _)
   | (with_reducible exact thresherref03_Fits.mono _ _ _ _)
   | (with_reducible exact thresherref03_digits.mono _ _)
   | (with_reducible exact LeO.refl _)
   | (with_reducible exact LeO.none _)
   | (with_reducible refine LeO.ite ?_ ?_)
   | (with_reducible refine LeO.bind ?_ (fun _=>?_))
   | exact ih0 _ _ _ _
   | exact ih1 _ _ _ _ _
   | exact ih2 _ _ _ _ _ _ _
   | exact thresherref03_Fits.mono _ _ _ _
   | exact thresherref03_digits.mono _ _
   | exact LeO.none _
   | refine LeO.ite ?_ ?_
   | refine LeO.bind ?_ (fun _=>?_)
set_option maxHeartbeats 8000000 in
set_option maxRecDepth 100000 in
theorem thresherref03_Text.calls (k : Nat) (a0 : Int) (a1_0 : Int) (a1_1 : ByteArray) (r : ByteArray) (w : World) (h : thresherref03_Text.f k a0 a1_0 a1_1=some r) :
  Calls Tryd.prog 23 #[.int .i64 a0,.agg #[.int .i64 a1_0,.string a1_1]] w fun e w'=>e=.returned (.string r)∧Below w.heap.size w w':=by
 have hu23:=Tryd.underlying23
 have HB:=Aside0.mk (Below.refl w.heap.size w)
 have H : ((thresherref03_Fits.f k a0 a1_0 a1_1).bind fun t259=>(if t259=true then (if a0=1 then (thresherref03_Text.j0 k a0 (decide (a1_0 < 0)) a1_0 a1_1) else (thresherref03_Text.j0 k a0 false a1_0 a1_1)) else (some (⟨#[]⟩ : ByteArray))))=some r:=h
 clear h
 replace H:=Option.bind_eq_some_iff.mp H
 obtain ⟨t259,A30,H⟩:=H
 replace H : (if t259=true then (if a0=1 then (thresherref03_Text.j0 k a0 (decide (a1_0 < 0)) a1_0 a1_1) else (thresherref03_Text.j0 k a0 false a1_0 a1_1)) else (some (⟨#[]⟩ : ByteArray)))=some r:=H
 have A3:=Aside0.mk A30
 clear A30
 by_cases c4 : t259=true
 ·subst c4
  have H1 : (if a0=1 then (thresherref03_Text.j0 k a0 (decide (a1_0 < 0)) a1_0 a1_1) else (thresherref03_Text.j0 k a0 false a1_0 a1_1))=some r:=by rw [if_pos rfl] at H;exact H
  clear H
  have H:=H1
  clear H1
  have HC5:=Aside0.mk H
  clear H
  go_enter Tryd.func23,Tryd.ntmps23
  go_upto_region 4 with (first|((with_reducible refine gate_dst (N:=3) rfl ?_);refine box_event ?hg (N:=3) ?hd (cs:=#[.int .i64 a1_0,.string a1_1]) (t:=23) ?hr ?_;(case hd=>rfl);(case hg=>rfl);(case hr=>first|(go_simp;done)|(go_simp;rfl));intro gb258 hg w6 hbox hb;have n0_:=Aside0.mk (below_step (below_up HB.out) hb);have n1_:=Aside0.mk (hbox);have n2_:=Aside0.mk ((by rw [hg];exact (below_size (below_up HB.out)) : w.heap.size≤gb258));have n3_:=Aside0.mk ((by rw [hg];exact (below_size (below_up HB.out)) : w.heap.size≤gb258));clear HB;have HB:=n0_;have BK258:=n1_;have GW258:=n2_;have GE258:=n3_;clear n0_ n1_ n2_ n3_;clear hb hbox hg;have hcz7_0 : w6.cell? ⟨gb258,0,none⟩=some (.int .i64 a1_0):=(blk_cell BK258.out 0).trans rfl;have hcz7_1 : w6.cell? ⟨gb258,1,none⟩=some (.string a1_1):=(blk_cell BK258.out 1).trans rfl;have hfz7_0:=blk_frozen BK258.out 0;have hfz7_1:=blk_frozen BK258.out 1)|(go_at_call 20;(with_reducible refine (thresherref03_Fits.calls k a0 a1_0 a1_1 true _ A3.out).mono ?_);rintro e w8 ⟨rfl,hb⟩;have n0_:=Aside0.mk (blk_below (blk_up BK258.out) hb);have n1_:=Aside0.mk (below_step (below_go HB.out) hb);clear BK258;clear HB;have BK258:=n0_;have HB:=n1_;clear n0_ n1_;(try clear hb);(try clear hb2);(try clear hk);(try clear hi)))
  repeat (go_quiet (first|((with_reducible refine gate_dst (N:=3) rfl ?_);refine box_event ?hg (N:=3) ?hd (cs:=#[.int .i64 a1_0,.string a1_1]) (t:=23) ?hr ?_;(case hd=>rfl);(case hg=>rfl);(case hr=>first|(go_simp;done)|(go_simp;rfl));intro gb258 hg w6 hbox hb;have n0_:=Aside0.mk (below_step (below_up HB.out) hb);have n1_:=Aside0.mk (hbox);have n2_:=Aside0.mk ((by rw [hg];exact (below_size (below_up HB.out)) : w.heap.size≤gb258));have n3_:=Aside0.mk ((by rw [hg];exact (below_size (below_up HB.out)) : w.heap.size≤gb258));clear HB;have HB:=n0_;have BK258:=n1_;have GW258:=n2_;have GE258:=n3_;clear n0_ n1_ n2_ n3_;clear hb hbox hg;have hcz7_0 : w6.cell? ⟨gb258,0,none⟩=some (.int .i64 a1_0):=(blk_cell BK258.out 0).trans rfl;have hcz7_1 : w6.cell? ⟨gb258,1,none⟩=some (.string a1_1):=(blk_cell BK258.out 1).trans rfl;have hfz7_0:=blk_frozen BK258.out 0;have hfz7_1:=blk_frozen BK258.out 1)|(go_at_call 20;(with_reducible refine (thresherref03_Fits.calls k a0 a1_0 a1_1 true _ A3.out).mono ?_);rintro e w8 ⟨rfl,hb⟩;have n0_:=Aside0.mk (blk_below (blk_up BK258.out) hb);have n1_:=Aside0.mk (below_step (below_go HB.out) hb);clear BK258;clear HB;have BK258:=n0_;have HB:=n1_;clear n0_ n1_;(try clear hb);(try clear hb2);(try clear hk);(try clear hi)));go_upto_region 4 with (first|((with_reducible refine gate_dst (N:=3) rfl ?_);refine box_event ?hg (N:=3) ?hd (cs:=#[.int .i64 a1_0,.string a1_1]) (t:=23) ?hr ?_;(case hd=>rfl);(case hg=>rfl);(case hr=>first|(go_simp;done)|(go_simp;rfl));intro gb258 hg w6 hbox hb;have n0_:=Aside0.mk (below_step (below_up HB.out) hb);have n1_:=Aside0.mk (hbox);have n2_:=Aside0.mk ((by rw [hg];exact (below_size (below_up HB.out)) : w.heap.size≤gb258));have n3_:=Aside0.mk ((by rw [hg];exact (below_size (below_up HB.out)) : w.heap.size≤gb258));clear HB;have HB:=n0_;have BK258:=n1_;have GW258:=n2_;have GE258:=n3_;clear n0_ n1_ n2_ n3_;clear hb hbox hg;have hcz7_0 : w6.cell? ⟨gb258,0,none⟩=some (.int .i64 a1_0):=(blk_cell BK258.out 0).trans rfl;have hcz7_1 : w6.cell? ⟨gb258,1,none⟩=some (.string a1_1):=(blk_cell BK258.out 1).trans rfl;have hfz7_0:=blk_frozen BK258.out 0;have hfz7_1:=blk_frozen BK258.out 1)|(go_at_call 20;(with_reducible refine (thresherref03_Fits.calls k a0 a1_0 a1_1 true _ A3.out).mono ?_);rintro e w8 ⟨rfl,hb⟩;have n0_:=Aside0.mk (blk_below (blk_up BK258.out) hb);have n1_:=Aside0.mk (below_step (below_go HB.out) hb);clear BK258;clear HB;have BK258:=n0_;have HB:=n1_;clear n0_ n1_;(try clear hb);(try clear hb2);(try clear hk);(try clear hi))))
  (try simp only [Act.put,List.setIfInBounds_toArray,List.set_cons_zero,List.set_cons_succ])
  go_cut [21] (fun v21 wc=>∃ (kq : Nat) (x21_4 : Bool),v21=.bool x21_4∧Aside0 (thresherref03_Text.j0 kq a0 x21_4 a1_0 a1_1=some r)∧Aside0 (kq≤k)∧Aside0 (wc.heap[gb258]?=some (.cells #[.int .i64 a1_0,.string a1_1] 23 (0,0)))∧Aside0 (Below w.heap.size w wc))
  case first =>
   have H:=HC5.out
   clear HC5
   by_cases c9 : a0=1
   ·rw [if_pos c9] at H
    have c9b0 : (a0 == 1)=true:=beq_iff_eq.mpr c9
    have c9b1 : (a0 != 1)=false:=bne_eq_false_iff_eq.mpr c9
    clear c9
    (first|rw [c9b0]|(simp only [i64_w,i32_w];rw [c9b0])|skip)
    have H':=Aside0.mk H
    clear H
    have hcz10_0 : w8.cell? ⟨gb258,0,none⟩=some (.int .i64 a1_0):=(blk_cell BK258.out 0).trans rfl
    have hcz10_1 : w8.cell? ⟨gb258,1,none⟩=some (.string a1_1):=(blk_cell BK258.out 1).trans rfl
    have hfz10_0:=blk_frozen BK258.out 0
    have hfz10_1:=blk_frozen BK258.out 1
    go_wp2
    repeat (go_quiet (fail);try go_wp2)
    go_meet
    case rel=>exact ⟨_,(decide (a1_0 < 0)),(by first|rfl|(simp;done)|(simp [*];done)),(by first|exact H'|(subst_vars;exact H')),⟨by first|omega|exact Nat.le_refl _⟩,⟨by (with_reducible repeat (first|refine blk_drewN ?_ _|refine blk_drew ?_|refine blk_alloc ?_ _));exact BK258.out⟩,⟨by repeat (first|(with_reducible first|exact HB.out|apply below_alloc|apply pw_below_drewN|apply below_drew1|refine below_set ?_ GE258.out)|exact HB.out)⟩⟩
   ·rw [if_neg c9] at H
    have c9b0 : (a0 == 1)=false:=beq_eq_false_iff_ne.mpr c9
    have c9b1 : (a0 != 1)=true:=bne_iff_ne.mpr c9
    (first|rw [c9b0]|(simp only [i64_w,i32_w];rw [c9b0])|skip)
    have H':=Aside0.mk H
    clear H
    go_wp2
    repeat (go_quiet (fail);try go_wp2)
    go_meet
    case rel=>exact ⟨_,(false),(by first|rfl|(simp;done)|(simp [*];done)),(by first|exact H'|(subst_vars;exact H')),⟨by first|omega|exact Nat.le_refl _⟩,⟨by (with_reducible repeat (first|refine blk_drewN ?_ _|refine blk_drew ?_|refine blk_alloc ?_ _));exact BK258.out⟩,⟨by repeat (first|(with_reducible first|exact HB.out|apply below_alloc|apply pw_below_drewN|apply below_drew1|refine below_set ?_ GE258.out)|exact HB.out)⟩⟩
  case rest =>
   clear HC5
   try clear c2
   try clear p2
   try clear c4
   try clear c9
   try clear c9b0
   try clear c9b1
   try clear hcz10_0
   try clear hcz10_1
   try clear hcz7_0
   try clear hcz7_1
   try clear hfz10_0
   try clear hfz10_1
   try clear hfz7_0
   try clear hfz7_1
   obtain ⟨kq,x21_4,rfl,HA,HJ4,BK258,HB⟩:=hcut
   cases kq with
   | zero=>exact absurd HA.out (by simp [thresherref03_Text.j0])
   | succ kj4 =>
    have H:=HA.out
    clear HA
    simp only [thresherref03_Text.j0] at H
    by_cases c11 : x21_4=true
    ·subst c11
     have H1 : ((thresherref03_digits.f kj4 (IntKind.u64.wrap (-(IntKind.u64.wrap (a1_0))))).bind fun t260=>(if 1 + t260.size≤9223372036854775807 then (some ((⟨#[45]⟩ : ByteArray) ++ t260)) else (none)))=some r:=by rw [if_pos rfl] at H;exact H
     clear H
     have H:=H1
     clear H1
     replace H:=Option.bind_eq_some_iff.mp H
     obtain ⟨t260,A120,H⟩:=H
     replace H : (if 1 + t260.size≤9223372036854775807 then (some ((⟨#[45]⟩ : ByteArray) ++ t260)) else (none))=some r:=H
     have A12:=Aside0.mk A120
     clear A120
     by_cases c13 : 1 + t260.size≤9223372036854775807
     ·rw [if_pos c13] at H
      have c13b0:=eq_true c13
      have c13b1 : decide (1 + t260.size≤9223372036854775807)=true:=decide_eq_true c13
      try have c13b2 : (9223372036854775807 < 1 + t260.size)=False:=eq_false (Nat.not_lt.2 c13)
      obtain rfl:=Option.some.inj H
      have hcz14_0 : wc.cell? ⟨gb258,0,none⟩=some (.int .i64 a1_0):=(blk_cell BK258.out 0).trans rfl
      have hcz14_1 : wc.cell? ⟨gb258,1,none⟩=some (.string a1_1):=(blk_cell BK258.out 1).trans rfl
      have hfz14_0:=blk_frozen BK258.out 0
      have hfz14_1:=blk_frozen BK258.out 1
      go_wp2_with (first|(go_at_call 37;(with_reducible refine (thresherref03_digits.calls kj4 (IntKind.u64.wrap (-(IntKind.u64.wrap (a1_0)))) t260 _ A12.out).mono ?_);rintro e w' ⟨rfl,⟨nd,rfl⟩⟩;(try first|exact ⟨rfl,_,World.drewN_drewN _ _ _⟩|exact ⟨rfl,_,Eq.trans (World.drewN_drewN _ _ _) (congrArg (World.drewN _) (Nat.add_assoc _ _ _))⟩)))
      repeat (go_quiet (first|(go_at_call 37;(with_reducible refine (thresherref03_digits.calls kj4 (IntKind.u64.wrap (-(IntKind.u64.wrap (a1_0)))) t260 _ A12.out).mono ?_);rintro e w' ⟨rfl,⟨nd,rfl⟩⟩;(try first|exact ⟨rfl,_,World.drewN_drewN _ _ _⟩|exact ⟨rfl,_,Eq.trans (World.drewN_drewN _ _ _) (congrArg (World.drewN _) (Nat.add_assoc _ _ _))⟩)));try go_wp2_with (first|(go_at_call 37;(with_reducible refine (thresherref03_digits.calls kj4 (IntKind.u64.wrap (-(IntKind.u64.wrap (a1_0)))) t260 _ A12.out).mono ?_);rintro e w' ⟨rfl,⟨nd,rfl⟩⟩;(try first|exact ⟨rfl,_,World.drewN_drewN _ _ _⟩|exact ⟨rfl,_,Eq.trans (World.drewN_drewN _ _ _) (congrArg (World.drewN _) (Nat.add_assoc _ _ _))⟩))))
      go_ret
      exact ⟨by first|rfl|(simp [errW_none,errW_some] <;> rfl)|(simp [*,errW_none,errW_some] <;> rfl),by repeat (first|(with_reducible first|exact HB.out|apply below_alloc|apply pw_below_drewN|apply below_drew1|refine below_set ?_ GE258.out)|exact HB.out)⟩
     ·rw [if_neg c13] at H
      exact absurd H (by simp)
    ·replace c11:=Bool.eq_false_iff.mpr c11
     subst c11
     have H1 : (if a0=3 then (thresherref03_Text.l0 kj4 (⟨#[34]⟩ : ByteArray) (⟨#[48,49,50,51,52,53,54,55,56,57,97,98,99,100,101,102]⟩ : ByteArray) 0 a1_0 a1_1) else ((thresherref03_digits.f kj4 (IntKind.u64.wrap (a1_0))).bind fun t261=>(some t261)))=some r:=by rw [if_neg (show ¬ (false=true) by decide)] at H;exact H
     clear H
     have H:=H1
     clear H1
     by_cases c15 : a0=3
     ·rw [if_pos c15] at H
      have c15b0 : (a0 == 3)=true:=beq_iff_eq.mpr c15
      have c15b1 : (a0 != 3)=false:=bne_eq_false_iff_eq.mpr c15
      clear c15
      have H':=Aside0.mk H
      clear H
      go_wp2
      repeat (go_quiet (fail);try go_wp2)
      go_loopg [6,8] kj4 (fun kq v6 v8 w'=>∃ (x6_2 : ByteArray) (x8_2 : Int),v6=.string x6_2∧v8=.int .i64 x8_2∧Aside0 (thresherref03_Text.l0 kq x6_2 (⟨#[48,49,50,51,52,53,54,55,56,57,97,98,99,100,101,102]⟩ : ByteArray) x8_2 a1_0 a1_1=some r)∧Aside0 (kq≤kj4)∧Aside0 (w'.heap[gb258]?=some (.cells #[.int .i64 a1_0,.string a1_1] 23 (0,0)))∧Aside0 (Below w.heap.size w w'))
      case atStart=>exact ⟨((⟨#[34]⟩ : ByteArray)),(0),(by first|rfl|(simp;done)|(simp [*];done)),(by first|rfl|(simp;done)|(simp [*];done)),H',⟨Nat.le_refl _⟩,⟨by (with_reducible repeat (first|refine blk_drewN ?_ _|refine blk_drew ?_|refine blk_alloc ?_ _));exact BK258.out⟩,⟨by repeat (first|(with_reducible first|exact HB.out|apply below_alloc|apply pw_below_drewN|apply below_drew1|refine below_set ?_ GE258.out)|exact HB.out)⟩⟩
      case round =>
       clear H'
       try clear c1
       try clear c2
       try clear p2
       try clear c4
       try clear c9
       try clear c9b0
       try clear c9b1
       try clear c11
       try clear c13
       try clear c13b0
       try clear c13b1
       try clear c13b2
       try clear c15
       try clear c15b0
       try clear c15b1
       try clear hcz10_0
       try clear hcz10_1
       try clear hcz14_0
       try clear hcz14_1
       try clear hcz7_0
       try clear hcz7_1
       try clear hfz10_0
       try clear hfz10_1
       try clear hfz14_0
       try clear hfz14_1
       try clear hfz7_0
       try clear hfz7_1
       try clear p2
       obtain ⟨x6_2,x8_2,rfl,rfl,HA,HK2,BK258,HB⟩:=hrel
       cases gk with
       | zero=>exact absurd HA.out (by simp [thresherref03_Text.l0])
       | succ k2 =>
        have H:=HA.out
        clear HA
        simp only [thresherref03_Text.l0] at H
        by_cases c16 : x8_2 < (a1_1.size : Int)
        ·rw [if_pos c16] at H
         have c16b0 : decide (x8_2 < (a1_1.size : Int))=true:=decide_eq_true c16
         clear c16
         by_cases c17 : 0≤x8_2
         ·rw [if_pos c17] at H
          have c17b0 : decide (0≤x8_2)=true:=decide_eq_true c17
          clear c17
          have HC19:=Aside0.mk H
          clear H
          have hcz20_0 : wr.cell? ⟨gb258,0,none⟩=some (.int .i64 a1_0):=(blk_cell BK258.out 0).trans rfl
          have hcz20_1 : wr.cell? ⟨gb258,1,none⟩=some (.string a1_1):=(blk_cell BK258.out 1).trans rfl
          have hfz20_0:=blk_frozen BK258.out 0
          have hfz20_1:=blk_frozen BK258.out 1
          have p18 : 0≤(x8_2 : Int):=of_decide_eq_true (by first|(with_reducible assumption)|assumption)
          have q18 : x8_2 < (a1_1.size : Int):=of_decide_eq_true (by first|(with_reducible assumption)|assumption)
          have hx18:=bt_at a1_1 x8_2
          replace p18:=eq_true p18
          replace q18:=eq_true q18
          go_upto_region 14 with (fail)
          repeat (go_quiet (fail);go_upto_region 14 with (fail))
          go_cut [58] (fun v58 wc=>∃ (kq : Nat) (x58_18 : Bool),v58=.bool x58_18∧Aside0 (thresherref03_Text.j2 kq x6_2 (⟨#[48,49,50,51,52,53,54,55,56,57,97,98,99,100,101,102]⟩ : ByteArray) x8_2 (bt a1_1 x8_2) x58_18 a1_0 a1_1=some r)∧Aside0 (kq≤k2)∧Aside0 (wc.heap[gb258]?=some (.cells #[.int .i64 a1_0,.string a1_1] 23 (0,0)))∧Aside0 (Below w.heap.size w wc))
          case first =>
           have H:=HC19.out
           clear HC19
           by_cases c21 : (bt a1_1 x8_2) < 32
           ·rw [if_pos c21] at H
            have c21b0 : decide ((bt a1_1 x8_2) < 32)=true:=decide_eq_true c21
            clear c21
            (first|rw [c21b0]|(simp only [i64_w,i32_w];rw [c21b0])|skip)
            have H':=Aside0.mk H
            clear H
            go_wp2
            repeat (go_quiet (fail);try go_wp2)
            go_meet
            case rel=>exact ⟨_,(true),(by first|rfl|(simp;done)|(simp [*];done)),(by first|exact H'|(subst_vars;exact H')),⟨by have:=HJ4.out;have:=HK2.out;first|omega|exact Nat.le_refl _⟩,⟨by (with_reducible repeat (first|refine blk_drewN ?_ _|refine blk_drew ?_|refine blk_alloc ?_ _));exact BK258.out⟩,⟨by repeat (first|(with_reducible first|exact HB.out|apply below_alloc|apply pw_below_drewN|apply below_drew1|refine below_set ?_ GE258.out)|exact HB.out)⟩⟩
           ·rw [if_neg c21] at H
            have c21b0 : decide ((bt a1_1 x8_2) < 32)=false:=decide_eq_false c21
            clear c21
            (first|rw [c21b0]|(simp only [i64_w,i32_w];rw [c21b0])|skip)
            by_cases c22 : (bt a1_1 x8_2) > 126
            ·rw [if_pos c22] at H
             have c22b0 : decide (126 < (bt a1_1 x8_2))=true:=decide_eq_true c22
             clear c22
             have H':=Aside0.mk H
             clear H
             go_wp2
             repeat (go_quiet (fail);try go_wp2)
             go_meet
             case rel=>exact ⟨_,(true),(by first|rfl|(simp;done)|(simp [*];done)),(by first|exact H'|(subst_vars;exact H')),⟨by have:=HJ4.out;have:=HK2.out;first|omega|exact Nat.le_refl _⟩,⟨by (with_reducible repeat (first|refine blk_drewN ?_ _|refine blk_drew ?_|refine blk_alloc ?_ _));exact BK258.out⟩,⟨by repeat (first|(with_reducible first|exact HB.out|apply below_alloc|apply pw_below_drewN|apply below_drew1|refine below_set ?_ GE258.out)|exact HB.out)⟩⟩
            ·rw [if_neg c22] at H
             have c22b0 : decide (126 < (bt a1_1 x8_2))=false:=decide_eq_false c22
             clear c22
             by_cases c23 : (bt a1_1 x8_2)=34
             ·rw [if_pos c23] at H
              have c23b0 : ((bt a1_1 x8_2) == 34)=true:=beq_iff_eq.mpr c23
              have c23b1 : ((bt a1_1 x8_2) != 34)=false:=bne_eq_false_iff_eq.mpr c23
              clear c23
              have H':=Aside0.mk H
              clear H
              go_wp2
              repeat (go_quiet (fail);try go_wp2)
              go_meet
              case rel=>exact ⟨_,(true),(by first|rfl|(simp;done)|(simp [*];done)),(by first|exact H'|(subst_vars;exact H')),⟨by have:=HJ4.out;have:=HK2.out;first|omega|exact Nat.le_refl _⟩,⟨by (with_reducible repeat (first|refine blk_drewN ?_ _|refine blk_drew ?_|refine blk_alloc ?_ _));exact BK258.out⟩,⟨by repeat (first|(with_reducible first|exact HB.out|apply below_alloc|apply pw_below_drewN|apply below_drew1|refine below_set ?_ GE258.out)|exact HB.out)⟩⟩
             ·rw [if_neg c23] at H
              have c23b0 : ((bt a1_1 x8_2) == 34)=false:=beq_eq_false_iff_ne.mpr c23
              have c23b1 : ((bt a1_1 x8_2) != 34)=true:=bne_iff_ne.mpr c23
              have H':=Aside0.mk H
              clear H
              go_wp2
              repeat (go_quiet (fail);try go_wp2)
              go_meet
              case rel=>exact ⟨_,(((bt a1_1 x8_2) == 92)),(by first|rfl|(simp;done)|(simp [*];done)),(by first|exact H'|(subst_vars;exact H')),⟨by have:=HJ4.out;have:=HK2.out;first|omega|exact Nat.le_refl _⟩,⟨by (with_reducible repeat (first|refine blk_drewN ?_ _|refine blk_drew ?_|refine blk_alloc ?_ _));exact BK258.out⟩,⟨by repeat (first|(with_reducible first|exact HB.out|apply below_alloc|apply pw_below_drewN|apply below_drew1|refine below_set ?_ GE258.out)|exact HB.out)⟩⟩
          case rest =>
           clear HC19
           try clear c1
           try clear p1
           try clear q1
           try clear hx1
           try clear c2
           try clear p2
           try clear c4
           try clear c9
           try clear c9b0
           try clear c9b1
           try clear c11
           try clear c13
           try clear c13b0
           try clear c13b1
           try clear c13b2
           try clear c15
           try clear c15b0
           try clear c15b1
           try clear c16
           try clear c16b0
           try clear c17
           try clear c17b0
           try clear p18
           try clear q18
           try clear hx18
           try clear c21
           try clear c21b0
           try clear c22
           try clear c22b0
           try clear c23
           try clear c23b0
           try clear c23b1
           try clear hcz10_0
           try clear hcz10_1
           try clear hcz14_0
           try clear hcz14_1
           try clear hcz20_0
           try clear hcz20_1
           try clear hcz7_0
           try clear hcz7_1
           try clear hfz10_0
           try clear hfz10_1
           try clear hfz14_0
           try clear hfz14_1
           try clear hfz20_0
           try clear hfz20_1
           try clear hfz7_0
           try clear hfz7_1
           try clear p18
           try clear p2
           try clear q18
           obtain ⟨kq,x58_18,rfl,HA,HJ18,BK258,HB⟩:=hcut
           cases kq with
           | zero=>exact absurd HA.out (by simp [thresherref03_Text.j2])
           | succ kj18 =>
            have H:=HA.out
            clear HA
            simp only [thresherref03_Text.j2] at H
            by_cases c24 : x58_18=true
            ·subst c24
             have H1 : (if x6_2.size + 1≤9223372036854775807 then (if 0≤((Int.tdiv (bt a1_1 x8_2) 16) % 256) then (if ((Int.tdiv (bt a1_1 x8_2) 16) % 256)≤(((Int.tdiv (bt a1_1 x8_2) 16) + 1) % 256) then (if (((Int.tdiv (bt a1_1 x8_2) 16) + 1) % 256)≤((⟨#[48,49,50,51,52,53,54,55,56,57,97,98,99,100,101,102]⟩ : ByteArray).size : Int) then (if (x6_2 ++ (⟨#[92]⟩ : ByteArray)).size + ((⟨#[48,49,50,51,52,53,54,55,56,57,97,98,99,100,101,102]⟩ : ByteArray).extract (((Int.tdiv (bt a1_1 x8_2) 16) % 256) : Int).toNat ((((Int.tdiv (bt a1_1 x8_2) 16) + 1) % 256) : Int).toNat).size≤9223372036854775807 then (if 0≤(Int.tmod (bt a1_1 x8_2) 16) then (if (Int.tmod (bt a1_1 x8_2) 16)≤(((Int.tmod (bt a1_1 x8_2) 16) + 1) % 256) then (if (((Int.tmod (bt a1_1 x8_2) 16) + 1) % 256)≤((⟨#[48,49,50,51,52,53,54,55,56,57,97,98,99,100,101,102]⟩ : ByteArray).size : Int) then (if ((x6_2 ++ (⟨#[92]⟩ : ByteArray)) ++ ((⟨#[48,49,50,51,52,53,54,55,56,57,97,98,99,100,101,102]⟩ : ByteArray).extract (((Int.tdiv (bt a1_1 x8_2) 16) % 256) : Int).toNat ((((Int.tdiv (bt a1_1 x8_2) 16) + 1) % 256) : Int).toNat)).size + ((⟨#[48,49,50,51,52,53,54,55,56,57,97,98,99,100,101,102]⟩ : ByteArray).extract ((Int.tmod (bt a1_1 x8_2) 16) : Int).toNat ((((Int.tmod (bt a1_1 x8_2) 16) + 1) % 256) : Int).toNat).size≤9223372036854775807 then (thresherref03_Text.l0 kj18 (((x6_2 ++ (⟨#[92]⟩ : ByteArray)) ++ ((⟨#[48,49,50,51,52,53,54,55,56,57,97,98,99,100,101,102]⟩ : ByteArray).extract (((Int.tdiv (bt a1_1 x8_2) 16) % 256) : Int).toNat ((((Int.tdiv (bt a1_1 x8_2) 16) + 1) % 256) : Int).toNat)) ++ ((⟨#[48,49,50,51,52,53,54,55,56,57,97,98,99,100,101,102]⟩ : ByteArray).extract ((Int.tmod (bt a1_1 x8_2) 16) : Int).toNat ((((Int.tmod (bt a1_1 x8_2) 16) + 1) % 256) : Int).toNat)) (⟨#[48,49,50,51,52,53,54,55,56,57,97,98,99,100,101,102]⟩ : ByteArray) (wrap64 (x8_2 + 1)) a1_0 a1_1) else (none)) else (none)) else (none)) else (none)) else (none)) else (none)) else (none)) else (none)) else (none))=some r:=by rw [if_pos rfl] at H;exact H
             clear H
             have H:=H1
             clear H1
             by_cases c25 : x6_2.size + 1≤9223372036854775807
             ·rw [if_pos c25] at H
              have c25b0:=eq_true c25
              have c25b1 : decide (x6_2.size + 1≤9223372036854775807)=true:=decide_eq_true c25
              try have c25b2 : (9223372036854775807 < x6_2.size + 1)=False:=eq_false (Nat.not_lt.2 c25)
              obtain ⟨ji26,hji26⟩ : ∃ j_ : Int,((Int.tdiv (bt a1_1 x8_2) 16) % 256)=j_:=⟨_,rfl⟩
              replace H : (if 0≤(ji26) then (if (ji26)≤(((Int.tdiv (bt a1_1 x8_2) 16) + 1) % 256) then (if (((Int.tdiv (bt a1_1 x8_2) 16) + 1) % 256)≤((⟨#[48,49,50,51,52,53,54,55,56,57,97,98,99,100,101,102]⟩ : ByteArray).size : Int) then (if (x6_2 ++ (⟨#[92]⟩ : ByteArray)).size + ((⟨#[48,49,50,51,52,53,54,55,56,57,97,98,99,100,101,102]⟩ : ByteArray).extract ((ji26) : Int).toNat ((((Int.tdiv (bt a1_1 x8_2) 16) + 1) % 256) : Int).toNat).size≤9223372036854775807 then (if 0≤(Int.tmod (bt a1_1 x8_2) 16) then (if (Int.tmod (bt a1_1 x8_2) 16)≤(((Int.tmod (bt a1_1 x8_2) 16) + 1) % 256) then (if (((Int.tmod (bt a1_1 x8_2) 16) + 1) % 256)≤((⟨#[48,49,50,51,52,53,54,55,56,57,97,98,99,100,101,102]⟩ : ByteArray).size : Int) then (if ((x6_2 ++ (⟨#[92]⟩ : ByteArray)) ++ ((⟨#[48,49,50,51,52,53,54,55,56,57,97,98,99,100,101,102]⟩ : ByteArray).extract ((ji26) : Int).toNat ((((Int.tdiv (bt a1_1 x8_2) 16) + 1) % 256) : Int).toNat)).size + ((⟨#[48,49,50,51,52,53,54,55,56,57,97,98,99,100,101,102]⟩ : ByteArray).extract ((Int.tmod (bt a1_1 x8_2) 16) : Int).toNat ((((Int.tmod (bt a1_1 x8_2) 16) + 1) % 256) : Int).toNat).size≤9223372036854775807 then (thresherref03_Text.l0 kj18 (((x6_2 ++ (⟨#[92]⟩ : ByteArray)) ++ ((⟨#[48,49,50,51,52,53,54,55,56,57,97,98,99,100,101,102]⟩ : ByteArray).extract ((ji26) : Int).toNat ((((Int.tdiv (bt a1_1 x8_2) 16) + 1) % 256) : Int).toNat)) ++ ((⟨#[48,49,50,51,52,53,54,55,56,57,97,98,99,100,101,102]⟩ : ByteArray).extract ((Int.tmod (bt a1_1 x8_2) 16) : Int).toNat ((((Int.tmod (bt a1_1 x8_2) 16) + 1) % 256) : Int).toNat)) (⟨#[48,49,50,51,52,53,54,55,56,57,97,98,99,100,101,102]⟩ : ByteArray) (wrap64 (x8_2 + 1)) a1_0 a1_1) else (none)) else (none)) else (none)) else (none)) else (none)) else (none)) else (none)) else (none))=some r:=by first|(rw [hji26] at H;exact H)|(simp only [hji26] at H ⊢;exact H)
              by_cases c27 : 0≤(ji26)
              ·rw [if_pos c27] at H
               have c27b0:=eq_true c27
               have c27b1 : decide (0≤(ji26))=true:=decide_eq_true c27
               clear c27
               by_cases c28 : (ji26)≤(((Int.tdiv (bt a1_1 x8_2) 16) + 1) % 256)
               ·rw [if_pos c28] at H
                have c28b0:=eq_true c28
                have c28b1 : decide ((ji26)≤(((Int.tdiv (bt a1_1 x8_2) 16) + 1) % 256))=true:=decide_eq_true c28
                by_cases c29 : (((Int.tdiv (bt a1_1 x8_2) 16) + 1) % 256)≤((⟨#[48,49,50,51,52,53,54,55,56,57,97,98,99,100,101,102]⟩ : ByteArray).size : Int)
                ·rw [if_pos c29] at H
                 have c29b0:=eq_true c29
                 have c29b1 : decide ((((Int.tdiv (bt a1_1 x8_2) 16) + 1) % 256)≤((⟨#[48,49,50,51,52,53,54,55,56,57,97,98,99,100,101,102]⟩ : ByteArray).size : Int))=true:=decide_eq_true c29
                 by_cases c30 : (x6_2 ++ (⟨#[92]⟩ : ByteArray)).size + ((⟨#[48,49,50,51,52,53,54,55,56,57,97,98,99,100,101,102]⟩ : ByteArray).extract ((ji26) : Int).toNat ((((Int.tdiv (bt a1_1 x8_2) 16) + 1) % 256) : Int).toNat).size≤9223372036854775807
                 ·rw [if_pos c30] at H
                  have c30b0:=eq_true c30
                  have c30b1 : decide ((x6_2 ++ (⟨#[92]⟩ : ByteArray)).size + ((⟨#[48,49,50,51,52,53,54,55,56,57,97,98,99,100,101,102]⟩ : ByteArray).extract ((ji26) : Int).toNat ((((Int.tdiv (bt a1_1 x8_2) 16) + 1) % 256) : Int).toNat).size≤9223372036854775807)=true:=decide_eq_true c30
                  try have c30b2 : (9223372036854775807 < (x6_2 ++ (⟨#[92]⟩ : ByteArray)).size + ((⟨#[48,49,50,51,52,53,54,55,56,57,97,98,99,100,101,102]⟩ : ByteArray).extract ((ji26) : Int).toNat ((((Int.tdiv (bt a1_1 x8_2) 16) + 1) % 256) : Int).toNat).size)=False:=eq_false (Nat.not_lt.2 c30)
                  obtain ⟨ji31,hji31⟩ : ∃ j_ : Int,(Int.tmod (bt a1_1 x8_2) 16)=j_:=⟨_,rfl⟩
                  replace H : (if 0≤(ji31) then (if (ji31)≤(((ji31) + 1) % 256) then (if (((ji31) + 1) % 256)≤((⟨#[48,49,50,51,52,53,54,55,56,57,97,98,99,100,101,102]⟩ : ByteArray).size : Int) then (if ((x6_2 ++ (⟨#[92]⟩ : ByteArray)) ++ ((⟨#[48,49,50,51,52,53,54,55,56,57,97,98,99,100,101,102]⟩ : ByteArray).extract ((ji26) : Int).toNat ((((Int.tdiv (bt a1_1 x8_2) 16) + 1) % 256) : Int).toNat)).size + ((⟨#[48,49,50,51,52,53,54,55,56,57,97,98,99,100,101,102]⟩ : ByteArray).extract ((ji31) : Int).toNat ((((ji31) + 1) % 256) : Int).toNat).size≤9223372036854775807 then (thresherref03_Text.l0 kj18 (((x6_2 ++ (⟨#[92]⟩ : ByteArray)) ++ ((⟨#[48,49,50,51,52,53,54,55,56,57,97,98,99,100,101,102]⟩ : ByteArray).extract ((ji26) : Int).toNat ((((Int.tdiv (bt a1_1 x8_2) 16) + 1) % 256) : Int).toNat)) ++ ((⟨#[48,49,50,51,52,53,54,55,56,57,97,98,99,100,101,102]⟩ : ByteArray).extract ((ji31) : Int).toNat ((((ji31) + 1) % 256) : Int).toNat)) (⟨#[48,49,50,51,52,53,54,55,56,57,97,98,99,100,101,102]⟩ : ByteArray) (wrap64 (x8_2 + 1)) a1_0 a1_1) else (none)) else (none)) else (none)) else (none))=some r:=by first|(rw [hji31] at H;exact H)|(simp only [hji31] at H ⊢;exact H)
                  by_cases c32 : 0≤(ji31)
                  ·rw [if_pos c32] at H
                   have c32b0:=eq_true c32
                   have c32b1 : decide (0≤(ji31))=true:=decide_eq_true c32
                   clear c32
                   by_cases c33 : (ji31)≤(((ji31) + 1) % 256)
                   ·rw [if_pos c33] at H
                    have c33b0:=eq_true c33
                    have c33b1 : decide ((ji31)≤(((ji31) + 1) % 256))=true:=decide_eq_true c33
                    by_cases c34 : (((ji31) + 1) % 256)≤((⟨#[48,49,50,51,52,53,54,55,56,57,97,98,99,100,101,102]⟩ : ByteArray).size : Int)
                    ·rw [if_pos c34] at H
                     have c34b0:=eq_true c34
                     have c34b1 : decide ((((ji31) + 1) % 256)≤((⟨#[48,49,50,51,52,53,54,55,56,57,97,98,99,100,101,102]⟩ : ByteArray).size : Int))=true:=decide_eq_true c34
                     by_cases c35 : ((x6_2 ++ (⟨#[92]⟩ : ByteArray)) ++ ((⟨#[48,49,50,51,52,53,54,55,56,57,97,98,99,100,101,102]⟩ : ByteArray).extract ((ji26) : Int).toNat ((((Int.tdiv (bt a1_1 x8_2) 16) + 1) % 256) : Int).toNat)).size + ((⟨#[48,49,50,51,52,53,54,55,56,57,97,98,99,100,101,102]⟩ : ByteArray).extract ((ji31) : Int).toNat ((((ji31) + 1) % 256) : Int).toNat).size≤9223372036854775807
                     ·rw [if_pos c35] at H
                      have c35b0:=eq_true c35
                      have c35b1 : decide (((x6_2 ++ (⟨#[92]⟩ : ByteArray)) ++ ((⟨#[48,49,50,51,52,53,54,55,56,57,97,98,99,100,101,102]⟩ : ByteArray).extract ((ji26) : Int).toNat ((((Int.tdiv (bt a1_1 x8_2) 16) + 1) % 256) : Int).toNat)).size + ((⟨#[48,49,50,51,52,53,54,55,56,57,97,98,99,100,101,102]⟩ : ByteArray).extract ((ji31) : Int).toNat ((((ji31) + 1) % 256) : Int).toNat).size≤9223372036854775807)=true:=decide_eq_true c35
                      try have c35b2 : (9223372036854775807 < ((x6_2 ++ (⟨#[92]⟩ : ByteArray)) ++ ((⟨#[48,49,50,51,52,53,54,55,56,57,97,98,99,100,101,102]⟩ : ByteArray).extract ((ji26) : Int).toNat ((((Int.tdiv (bt a1_1 x8_2) 16) + 1) % 256) : Int).toNat)).size + ((⟨#[48,49,50,51,52,53,54,55,56,57,97,98,99,100,101,102]⟩ : ByteArray).extract ((ji31) : Int).toNat ((((ji31) + 1) % 256) : Int).toNat).size)=False:=eq_false (Nat.not_lt.2 c35)
                      generalize hq0 : Int.tdiv (bt a1_1 x8_2) 16=q0 at H hji26 c30b0 c30b1 c30b2 c35b0 c35b1 c35b2
                      have hb0:=bt_range a1_1 x8_2
                      have hq1 : 0≤q0∧q0≤15:=by rw [← hq0,Int.tdiv_eq_ediv_of_nonneg hb0.1];omega
                      have hq2 : 0≤ji31∧ji31≤15:=by rw [← hji31,Int.tmod_eq_emod_of_nonneg hb0.1];omega
                      have e26 : ji26=q0:=by rw [← hji26];omega
                      have z0 : (q0 + 1) % 256=q0 + 1:=by omega
                      have z1 : (ji31 + 1) % 256=ji31 + 1:=by omega
                      rw [e26,z0] at c30b0 c30b1 c30b2
                      rw [e26,z0,z1] at H c35b0 c35b1 c35b2
                      have s1_ : (⟨#[92]⟩ : ByteArray).size=1:=rfl
                      have s2_ : (⟨#[48,49,50,51,52,53,54,55,56,57,97,98,99,100,101,102]⟩ : ByteArray).size=16:=rfl
                      have y_:=of_eq_true c35b0
                      rw [ByteArray.size_append,ByteArray.size_append,ByteArray.size_extract,ByteArray.size_extract,s1_,s2_] at y_
                      have y1_ : (9223372036854775807 < x6_2.size + 1 + ((q0 + 1).toNat - q0.toNat))=False:=eq_false (by omega)
                      have y2_ : (9223372036854775807 < x6_2.size + 1 + ((q0 + 1).toNat - q0.toNat) + ((ji31 + 1).toNat - ji31.toNat))=False:=eq_false (by omega)
                      have y3_ : (9223372036854775807 < x6_2.size + 1)=False:=eq_false (by omega)
                      clear s1_ s2_ y_
                      have w0_ : IntKind.u8.wrap q0=q0:=by rw [IntKind.wrap_u8];omega
                      have w1_ : IntKind.u8.wrap (q0 + 1)=q0 + 1:=by rw [IntKind.wrap_u8];omega
                      have w2_ : IntKind.u8.wrap ji31=ji31:=by rw [IntKind.wrap_u8];omega
                      have w3_ : IntKind.u8.wrap (ji31 + 1)=ji31 + 1:=by rw [IntKind.wrap_u8];omega
                      have p0_ : (0≤q0)=True:=eq_true hq1.1
                      have p1_ : (q0 + 1≤16)=True:=eq_true (by omega)
                      have p2_ : (q0≤q0 + 1)=True:=eq_true (by omega)
                      have p3_ : (0≤ji31)=True:=eq_true hq2.1
                      have p4_ : (ji31 + 1≤16)=True:=eq_true (by omega)
                      have p5_ : (ji31≤ji31 + 1)=True:=eq_true (by omega)
                      clear hb0 hq1 hq2 e26 z0 z1 hji26 c27b0 c27b1 c28 c28b0 c28b1 c29 c29b0 c29b1 c33 c33b0 c33b1 c34 c34b0 c34b1 c32b0 c32b1
                      have H':=Aside0.mk H
                      clear H
                      go_wp2
                      refine start_ (n:=19) (S:=fun w'=>True) (ds:=[]) #[false,false,false,false,false,false,false,false,false,false,false,false,false,false,false,false,false,false,false] (by kernel_rfl) rfl rfl trivial (fun hHeld=>?_)
                      refine pure_ (i:=0) (N:=some 59) (v:=?_) (a':=?_) #[true,false,false,false,false,false,false,false,false,false,false,false,false,false,false,false,false,false,false] rfl rfl (by kernel_rfl) (fun _ _ _ h=>h) (Or.inl ⟨by rfl,?_⟩) ?_ ?_
                      rotate_left;(intro w';go_simp;with_reducible rfl);rotate_left;(simp only [Act.put,List.setIfInBounds_toArray,List.set_cons_zero,List.set_cons_succ,i64_w,i32_w];rfl)
                      refine pure_ (i:=1) (N:=some 60) (v:=?_) (a':=?_) #[true,true,false,false,false,false,false,false,false,false,false,false,false,false,false,false,false,false,false] rfl rfl (by kernel_rfl) (fun _ _ _ h=>h) (Or.inl ⟨by rfl,?_⟩) ?_ ?_
                      rotate_left;(intro w';go_simp;with_reducible rfl);rotate_left;(simp only [Act.put,List.setIfInBounds_toArray,List.set_cons_zero,List.set_cons_succ,i64_w,i32_w];rfl)
                      refine pure_ (i:=2) (N:=some 61) (v:=?_) (a':=?_) #[true,true,true,false,false,false,false,false,false,false,false,false,false,false,false,false,false,false,false] rfl rfl (by kernel_rfl) (fun _ _ _ h=>h) (Or.inl ⟨by rfl,?_⟩) ?_ ?_
                      rotate_left;(intro w';go_simp;with_reducible rfl);rotate_left;(simp only [Act.put,List.setIfInBounds_toArray,List.set_cons_zero,List.set_cons_succ,i64_w,i32_w];rfl)
                      refine pure_ (i:=3) (N:=some 62) (v:=?_) (a':=?_) #[true,true,true,true,false,false,false,false,false,false,false,false,false,false,false,false,false,false,false] rfl rfl (by kernel_rfl) (fun _ _ _ h=>h) (Or.inl ⟨by rfl,?_⟩) ?_ ?_
                      rotate_left;(intro w';go_simp;with_reducible rfl);rotate_left;(simp only [Act.put,List.setIfInBounds_toArray,List.set_cons_zero,List.set_cons_succ,i64_w,i32_w];rfl)
                      refine pure_ (i:=4) (N:=some 63) (v:=?_) (a':=?_) #[true,true,true,true,true,false,false,false,false,false,false,false,false,false,false,false,false,false,false] rfl rfl (by kernel_rfl) (fun _ _ _ h=>h) (Or.inl ⟨by rfl,?_⟩) ?_ ?_
                      rotate_left;(intro w';go_simp;with_reducible rfl);rotate_left;(simp only [Act.put,List.setIfInBounds_toArray,List.set_cons_zero,List.set_cons_succ,i64_w,i32_w];rfl)
                      refine pure_ (i:=5) (N:=some 64) (v:=?_) (a':=?_) #[true,true,true,true,true,true,false,false,false,false,false,false,false,false,false,false,false,false,false] rfl rfl (by kernel_rfl) (fun _ _ _ h=>h) (Or.inl ⟨by rfl,?_⟩) ?_ ?_
                      rotate_left;(intro w';go_simp;with_reducible rfl);rotate_left;(simp only [Act.put,List.setIfInBounds_toArray,List.set_cons_zero,List.set_cons_succ,i64_w,i32_w];rfl)
                      refine pure_ (i:=6) (N:=some 65) (v:=?_) (a':=?_) #[true,true,true,true,true,true,true,false,false,false,false,false,false,false,false,false,false,false,false] rfl rfl (by kernel_rfl) (fun _ _ _ h=>h) (Or.inl ⟨by rfl,?_⟩) ?_ ?_
                      rotate_left;(intro w';go_simp;with_reducible rfl);rotate_left;(simp only [Act.put,List.setIfInBounds_toArray,List.set_cons_zero,List.set_cons_succ,i64_w,i32_w];rfl)
                      refine pure_ (i:=7) (N:=some 66) (v:=?_) (a':=?_) #[true,true,true,true,true,true,true,true,false,false,false,false,false,false,false,false,false,false,false] rfl rfl (by kernel_rfl) (fun _ _ _ h=>h) (Or.inl ⟨by rfl,?_⟩) ?_ ?_
                      rotate_left;(intro w';go_simp;with_reducible rfl);rotate_left;(simp only [Act.put,List.setIfInBounds_toArray,List.set_cons_zero,List.set_cons_succ,i64_w,i32_w];rfl)
                      refine pure_ (i:=8) (N:=some 67) (v:=?_) (a':=?_) #[true,true,true,true,true,true,true,true,true,false,false,false,false,false,false,false,false,false,false] rfl rfl (by kernel_rfl) (fun _ _ _ h=>h) (Or.inl ⟨by rfl,?_⟩) ?_ ?_
                      rotate_left;(intro w';go_simp;with_reducible rfl);rotate_left;(simp only [Act.put,List.setIfInBounds_toArray,List.set_cons_zero,List.set_cons_succ,i64_w,i32_w];rfl)
                      refine pure_ (i:=9) (N:=some 68) (v:=?_) (a':=?_) #[true,true,true,true,true,true,true,true,true,true,false,false,false,false,false,false,false,false,false] rfl rfl (by kernel_rfl) (fun _ _ _ h=>h) (Or.inl ⟨by rfl,?_⟩) ?_ ?_
                      rotate_left;(intro w';go_simp;with_reducible rfl);rotate_left;(simp only [Act.put,List.setIfInBounds_toArray,List.set_cons_zero,List.set_cons_succ,i64_w,i32_w];rfl)
                      refine pure_ (i:=10) (N:=some 69) (v:=?_) (a':=?_) #[true,true,true,true,true,true,true,true,true,true,true,false,false,false,false,false,false,false,false] rfl rfl (by kernel_rfl) (fun _ _ _ h=>h) (Or.inl ⟨by rfl,?_⟩) ?_ ?_
                      rotate_left;(intro w';go_simp;with_reducible rfl);rotate_left;(simp only [Act.put,List.setIfInBounds_toArray,List.set_cons_zero,List.set_cons_succ,i64_w,i32_w];rfl)
                      refine pure_ (i:=11) (N:=some 70) (v:=?_) (a':=?_) #[true,true,true,true,true,true,true,true,true,true,true,true,false,false,false,false,false,false,false] rfl rfl (by kernel_rfl) (fun _ _ _ h=>h) (Or.inl ⟨by rfl,?_⟩) ?_ ?_
                      rotate_left;(intro w';go_simp;with_reducible rfl);rotate_left;(simp only [Act.put,List.setIfInBounds_toArray,List.set_cons_zero,List.set_cons_succ,i64_w,i32_w];rfl)
                      refine pure_ (i:=12) (N:=some 71) (v:=?_) (a':=?_) #[true,true,true,true,true,true,true,true,true,true,true,true,true,false,false,false,false,false,false] rfl rfl (by kernel_rfl) (fun _ _ _ h=>h) (Or.inl ⟨by rfl,?_⟩) ?_ ?_
                      rotate_left;(intro w';go_simp;with_reducible rfl);rotate_left;(simp only [Act.put,List.setIfInBounds_toArray,List.set_cons_zero,List.set_cons_succ,i64_w,i32_w];rfl)
                      refine pure_ (i:=13) (N:=some 72) (v:=?_) (a':=?_) #[true,true,true,true,true,true,true,true,true,true,true,true,true,true,false,false,false,false,false] rfl rfl (by kernel_rfl) (fun _ _ _ h=>h) (Or.inl ⟨by rfl,?_⟩) ?_ ?_
                      rotate_left;(intro w';go_simp;with_reducible rfl);rotate_left;(simp only [Act.put,List.setIfInBounds_toArray,List.set_cons_zero,List.set_cons_succ,i64_w,i32_w];rfl)
                      refine pure_ (i:=14) (N:=some 73) (v:=?_) (a':=?_) #[true,true,true,true,true,true,true,true,true,true,true,true,true,true,true,false,false,false,false] rfl rfl (by kernel_rfl) (fun _ _ _ h=>h) (Or.inl ⟨by rfl,?_⟩) ?_ ?_
                      rotate_left;(intro w';go_simp;with_reducible rfl);rotate_left;(simp only [Act.put,List.setIfInBounds_toArray,List.set_cons_zero,List.set_cons_succ,i64_w,i32_w];rfl)
                      refine pure_ (i:=15) (N:=some 74) (v:=?_) (a':=?_) #[true,true,true,true,true,true,true,true,true,true,true,true,true,true,true,true,false,false,false] rfl rfl (by kernel_rfl) (fun _ _ _ h=>h) (Or.inl ⟨by rfl,?_⟩) ?_ ?_
                      rotate_left;(intro w';go_simp;with_reducible rfl);rotate_left;(simp only [Act.put,List.setIfInBounds_toArray,List.set_cons_zero,List.set_cons_succ,i64_w,i32_w];rfl)
                      refine pure_ (i:=16) (N:=some 75) (v:=?_) (a':=?_) #[true,true,true,true,true,true,true,true,true,true,true,true,true,true,true,true,true,false,false] rfl rfl (by kernel_rfl) (fun _ _ _ h=>h) (Or.inl ⟨by rfl,?_⟩) ?_ ?_
                      rotate_left;(intro w';go_simp;with_reducible rfl);rotate_left;(simp only [Act.put,List.setIfInBounds_toArray,List.set_cons_zero,List.set_cons_succ,i64_w,i32_w];rfl)
                      refine pure_ (i:=17) (N:=some 76) (v:=?_) (a':=?_) #[true,true,true,true,true,true,true,true,true,true,true,true,true,true,true,true,true,true,false] rfl rfl (by kernel_rfl) (fun _ _ _ h=>h) (Or.inl ⟨by rfl,?_⟩) ?_ ?_
                      rotate_left;(intro w';go_simp;with_reducible rfl);rotate_left;(simp only [Act.put,List.setIfInBounds_toArray,List.set_cons_zero,List.set_cons_succ,i64_w,i32_w];rfl)
                      refine pure_ (i:=18) (N:=some 6) (v:=?_) (a':=?_) #[true,true,true,true,true,true,true,true,true,true,true,true,true,true,true,true,true,true,true] rfl rfl (by kernel_rfl) (fun _ _ _ h=>h) (Or.inl ⟨by rfl,?_⟩) ?_ ?_
                      rotate_left;(intro w';go_simp;with_reducible rfl);rotate_left;(simp only [Act.put,List.setIfInBounds_toArray,List.set_cons_zero,List.set_cons_succ,i64_w,i32_w];rfl)
                      refine done_ (by kernel_rfl) ?_
                      (try clear hHeld)
                      try go_wp2
                      go_roundg kj18
                      case measure=>have:=HJ4.out;have:=HK2.out;have:=HJ18.out;omega
                      case rel=>exact ⟨(((x6_2 ++ (⟨#[92]⟩ : ByteArray)) ++ ((⟨#[48,49,50,51,52,53,54,55,56,57,97,98,99,100,101,102]⟩ : ByteArray).extract (q0 : Int).toNat ((q0 + 1) : Int).toNat)) ++ ((⟨#[48,49,50,51,52,53,54,55,56,57,97,98,99,100,101,102]⟩ : ByteArray).extract (ji31 : Int).toNat ((ji31 + 1) : Int).toNat)),(wrap64 (x8_2 + 1)),(by first|rfl|(simp;done)|(simp only [← hji31] <;> (first|rfl|simp))|(simp [*];done)),(by first|rfl|(simp;done)|(simp [*];done)),(by first|exact H'|(subst_vars;exact H')),⟨by have:=HJ4.out;have:=HK2.out;have:=HJ18.out;omega⟩,⟨by (with_reducible repeat (first|refine blk_drewN ?_ _|refine blk_drew ?_|refine blk_alloc ?_ _));exact BK258.out⟩,⟨by repeat (first|(with_reducible first|exact HB.out|apply below_alloc|apply pw_below_drewN|apply below_drew1|refine below_set ?_ GE258.out)|exact HB.out)⟩⟩
                     ·rw [if_neg c35] at H
                      exact absurd H (by simp)
                    ·rw [if_neg c34] at H
                     exact absurd H (by simp)
                   ·rw [if_neg c33] at H
                    exact absurd H (by simp)
                  ·rw [if_neg c32] at H
                   exact absurd H (by simp)
                 ·rw [if_neg c30] at H
                  exact absurd H (by simp)
                ·rw [if_neg c29] at H
                 exact absurd H (by simp)
               ·rw [if_neg c28] at H
                exact absurd H (by simp)
              ·rw [if_neg c27] at H
               exact absurd H (by simp)
             ·rw [if_neg c25] at H
              exact absurd H (by simp)
            ·replace c24:=Bool.eq_false_iff.mpr c24
             subst c24
             have H1 : (if 0≤x8_2 then (if x8_2≤(wrap64 (x8_2 + 1)) then (if (wrap64 (x8_2 + 1))≤(a1_1.size : Int) then (if x6_2.size + (a1_1.extract (x8_2 : Int).toNat ((wrap64 (x8_2 + 1)) : Int).toNat).size≤9223372036854775807 then (thresherref03_Text.l0 kj18 (x6_2 ++ (a1_1.extract (x8_2 : Int).toNat ((wrap64 (x8_2 + 1)) : Int).toNat)) (⟨#[48,49,50,51,52,53,54,55,56,57,97,98,99,100,101,102]⟩ : ByteArray) (wrap64 (x8_2 + 1)) a1_0 a1_1) else (none)) else (none)) else (none)) else (none))=some r:=by rw [if_neg (show ¬ (false=true) by decide)] at H;exact H
             clear H
             have H:=H1
             clear H1
             by_cases c36 : 0≤x8_2
             ·rw [if_pos c36] at H
              have c36b0:=eq_true c36
              have c36b1 : decide (0≤x8_2)=true:=decide_eq_true c36
              clear c36
              by_cases c37 : x8_2≤(wrap64 (x8_2 + 1))
              ·rw [if_pos c37] at H
               have c37b0:=eq_true c37
               have c37b1 : decide (x8_2≤(wrap64 (x8_2 + 1)))=true:=decide_eq_true c37
               by_cases c38 : (wrap64 (x8_2 + 1))≤(a1_1.size : Int)
               ·rw [if_pos c38] at H
                have c38b0:=eq_true c38
                have c38b1 : decide ((wrap64 (x8_2 + 1))≤(a1_1.size : Int))=true:=decide_eq_true c38
                by_cases c39 : x6_2.size + (a1_1.extract (x8_2 : Int).toNat ((wrap64 (x8_2 + 1)) : Int).toNat).size≤9223372036854775807
                ·rw [if_pos c39] at H
                 have c39b0:=eq_true c39
                 have c39b1 : decide (x6_2.size + (a1_1.extract (x8_2 : Int).toNat ((wrap64 (x8_2 + 1)) : Int).toNat).size≤9223372036854775807)=true:=decide_eq_true c39
                 try have c39b2 : (9223372036854775807 < x6_2.size + (a1_1.extract (x8_2 : Int).toNat ((wrap64 (x8_2 + 1)) : Int).toNat).size)=False:=eq_false (Nat.not_lt.2 c39)
                 have H':=Aside0.mk H
                 clear H
                 have hcz40_0 : wc.cell? ⟨gb258,0,none⟩=some (.int .i64 a1_0):=(blk_cell BK258.out 0).trans rfl
                 have hcz40_1 : wc.cell? ⟨gb258,1,none⟩=some (.string a1_1):=(blk_cell BK258.out 1).trans rfl
                 have hfz40_0:=blk_frozen BK258.out 0
                 have hfz40_1:=blk_frozen BK258.out 1
                 go_wp2
                 repeat (go_quiet (fail);try go_wp2)
                 go_roundg kj18
                 case measure=>have:=HJ4.out;have:=HK2.out;have:=HJ18.out;omega
                 case rel=>exact ⟨(x6_2 ++ (a1_1.extract (x8_2 : Int).toNat ((wrap64 (x8_2 + 1)) : Int).toNat)),(wrap64 (x8_2 + 1)),(by first|rfl|(simp;done)|(simp [*];done)),(by first|rfl|(simp;done)|(simp [*];done)),(by first|exact H'|(subst_vars;exact H')),⟨by have:=HJ4.out;have:=HK2.out;have:=HJ18.out;omega⟩,⟨by (with_reducible repeat (first|refine blk_drewN ?_ _|refine blk_drew ?_|refine blk_alloc ?_ _));exact BK258.out⟩,⟨by repeat (first|(with_reducible first|exact HB.out|apply below_alloc|apply pw_below_drewN|apply below_drew1|refine below_set ?_ GE258.out)|exact HB.out)⟩⟩
                ·rw [if_neg c39] at H
                 exact absurd H (by simp)
               ·rw [if_neg c38] at H
                exact absurd H (by simp)
              ·rw [if_neg c37] at H
               exact absurd H (by simp)
             ·rw [if_neg c36] at H
              exact absurd H (by simp)
         ·rw [if_neg c17] at H
          exact absurd H (by simp)
        ·rw [if_neg c16] at H
         have c16b0 : decide (x8_2 < (a1_1.size : Int))=false:=decide_eq_false c16
         clear c16
         by_cases c41 : x6_2.size + 1≤9223372036854775807
         ·rw [if_pos c41] at H
          have c41b0:=eq_true c41
          have c41b1 : decide (x6_2.size + 1≤9223372036854775807)=true:=decide_eq_true c41
          try have c41b2 : (9223372036854775807 < x6_2.size + 1)=False:=eq_false (Nat.not_lt.2 c41)
          obtain rfl:=Option.some.inj H
          have hcz42_0 : wr.cell? ⟨gb258,0,none⟩=some (.int .i64 a1_0):=(blk_cell BK258.out 0).trans rfl
          have hcz42_1 : wr.cell? ⟨gb258,1,none⟩=some (.string a1_1):=(blk_cell BK258.out 1).trans rfl
          have hfz42_0:=blk_frozen BK258.out 0
          have hfz42_1:=blk_frozen BK258.out 1
          go_wp2
          repeat (go_quiet (fail);try go_wp2)
          go_ret
          exact ⟨by first|rfl|(simp [errW_none,errW_some] <;> rfl)|(simp [*,errW_none,errW_some] <;> rfl),by repeat (first|(with_reducible first|exact HB.out|apply below_alloc|apply pw_below_drewN|apply below_drew1|refine below_set ?_ GE258.out)|exact HB.out)⟩
         ·rw [if_neg c41] at H
          exact absurd H (by simp)
     ·rw [if_neg c15] at H
      have c15b0 : (a0 == 3)=false:=beq_eq_false_iff_ne.mpr c15
      have c15b1 : (a0 != 3)=true:=bne_iff_ne.mpr c15
      replace H:=Option.bind_eq_some_iff.mp H
      obtain ⟨t261,A430,H⟩:=H
      replace H : (some t261)=some r:=H
      have A43:=Aside0.mk A430
      clear A430
      obtain rfl:=Option.some.inj H
      have hcz44_0 : wc.cell? ⟨gb258,0,none⟩=some (.int .i64 a1_0):=(blk_cell BK258.out 0).trans rfl
      have hcz44_1 : wc.cell? ⟨gb258,1,none⟩=some (.string a1_1):=(blk_cell BK258.out 1).trans rfl
      have hfz44_0:=blk_frozen BK258.out 0
      have hfz44_1:=blk_frozen BK258.out 1
      go_wp2_with (first|(go_at_call 37;(with_reducible refine (thresherref03_digits.calls kj4 (IntKind.u64.wrap (a1_0)) t261 _ A43.out).mono ?_);rintro e w' ⟨rfl,⟨nd,rfl⟩⟩;(try first|exact ⟨rfl,_,World.drewN_drewN _ _ _⟩|exact ⟨rfl,_,Eq.trans (World.drewN_drewN _ _ _) (congrArg (World.drewN _) (Nat.add_assoc _ _ _))⟩)))
      repeat (go_quiet (first|(go_at_call 37;(with_reducible refine (thresherref03_digits.calls kj4 (IntKind.u64.wrap (a1_0)) t261 _ A43.out).mono ?_);rintro e w' ⟨rfl,⟨nd,rfl⟩⟩;(try first|exact ⟨rfl,_,World.drewN_drewN _ _ _⟩|exact ⟨rfl,_,Eq.trans (World.drewN_drewN _ _ _) (congrArg (World.drewN _) (Nat.add_assoc _ _ _))⟩)));try go_wp2_with (first|(go_at_call 37;(with_reducible refine (thresherref03_digits.calls kj4 (IntKind.u64.wrap (a1_0)) t261 _ A43.out).mono ?_);rintro e w' ⟨rfl,⟨nd,rfl⟩⟩;(try first|exact ⟨rfl,_,World.drewN_drewN _ _ _⟩|exact ⟨rfl,_,Eq.trans (World.drewN_drewN _ _ _) (congrArg (World.drewN _) (Nat.add_assoc _ _ _))⟩))))
      go_ret
      exact ⟨by first|rfl|(simp [errW_none,errW_some] <;> rfl)|(simp [*,errW_none,errW_some] <;> rfl),by repeat (first|(with_reducible first|exact HB.out|apply below_alloc|apply pw_below_drewN|apply below_drew1|refine below_set ?_ GE258.out)|exact HB.out)⟩
 ·replace c4:=Bool.eq_false_iff.mpr c4
  subst c4
  have H1 : (some (⟨#[]⟩ : ByteArray))=some r:=by rw [if_neg (show ¬ (false=true) by decide)] at H;exact H
  clear H
  have H:=H1
  clear H1
  obtain rfl:=Option.some.inj H
  go_enter Tryd.func23,Tryd.ntmps23
  go_wp2_with (first|((with_reducible refine gate_dst (N:=3) rfl ?_);refine box_event ?hg (N:=3) ?hd (cs:=#[.int .i64 a1_0,.string a1_1]) (t:=23) ?hr ?_;(case hd=>rfl);(case hg=>rfl);(case hr=>first|(go_simp;done)|(go_simp;rfl));intro gb258 hg w45 hbox hb;have n0_:=Aside0.mk (below_step (below_up HB.out) hb);have n1_:=Aside0.mk (hbox);have n2_:=Aside0.mk ((by rw [hg];exact (below_size (below_up HB.out)) : w.heap.size≤gb258));have n3_:=Aside0.mk ((by rw [hg];exact (below_size (below_up HB.out)) : w.heap.size≤gb258));clear HB;have HB:=n0_;have BK258:=n1_;have GW258:=n2_;have GE258:=n3_;clear n0_ n1_ n2_ n3_;clear hb hbox hg;have hcz46_0 : w45.cell? ⟨gb258,0,none⟩=some (.int .i64 a1_0):=(blk_cell BK258.out 0).trans rfl;have hcz46_1 : w45.cell? ⟨gb258,1,none⟩=some (.string a1_1):=(blk_cell BK258.out 1).trans rfl;have hfz46_0:=blk_frozen BK258.out 0;have hfz46_1:=blk_frozen BK258.out 1)|(go_at_call 20;(with_reducible refine (thresherref03_Fits.calls k a0 a1_0 a1_1 false _ A3.out).mono ?_);rintro e w47 ⟨rfl,hb⟩;have n0_:=Aside0.mk (blk_below (blk_up BK258.out) hb);have n1_:=Aside0.mk (below_step (below_go HB.out) hb);clear BK258;clear HB;have BK258:=n0_;have HB:=n1_;clear n0_ n1_;(try clear hb);(try clear hb2);(try clear hk);(try clear hi)))
  repeat (go_quiet (first|((with_reducible refine gate_dst (N:=3) rfl ?_);refine box_event ?hg (N:=3) ?hd (cs:=#[.int .i64 a1_0,.string a1_1]) (t:=23) ?hr ?_;(case hd=>rfl);(case hg=>rfl);(case hr=>first|(go_simp;done)|(go_simp;rfl));intro gb258 hg w45 hbox hb;have n0_:=Aside0.mk (below_step (below_up HB.out) hb);have n1_:=Aside0.mk (hbox);have n2_:=Aside0.mk ((by rw [hg];exact (below_size (below_up HB.out)) : w.heap.size≤gb258));have n3_:=Aside0.mk ((by rw [hg];exact (below_size (below_up HB.out)) : w.heap.size≤gb258));clear HB;have HB:=n0_;have BK258:=n1_;have GW258:=n2_;have GE258:=n3_;clear n0_ n1_ n2_ n3_;clear hb hbox hg;have hcz46_0 : w45.cell? ⟨gb258,0,none⟩=some (.int .i64 a1_0):=(blk_cell BK258.out 0).trans rfl;have hcz46_1 : w45.cell? ⟨gb258,1,none⟩=some (.string a1_1):=(blk_cell BK258.out 1).trans rfl;have hfz46_0:=blk_frozen BK258.out 0;have hfz46_1:=blk_frozen BK258.out 1)|(go_at_call 20;(with_reducible refine (thresherref03_Fits.calls k a0 a1_0 a1_1 false _ A3.out).mono ?_);rintro e w47 ⟨rfl,hb⟩;have n0_:=Aside0.mk (blk_below (blk_up BK258.out) hb);have n1_:=Aside0.mk (below_step (below_go HB.out) hb);clear BK258;clear HB;have BK258:=n0_;have HB:=n1_;clear n0_ n1_;(try clear hb);(try clear hb2);(try clear hk);(try clear hi)));try go_wp2_with (first|((with_reducible refine gate_dst (N:=3) rfl ?_);refine box_event ?hg (N:=3) ?hd (cs:=#[.int .i64 a1_0,.string a1_1]) (t:=23) ?hr ?_;(case hd=>rfl);(case hg=>rfl);(case hr=>first|(go_simp;done)|(go_simp;rfl));intro gb258 hg w45 hbox hb;have n0_:=Aside0.mk (below_step (below_up HB.out) hb);have n1_:=Aside0.mk (hbox);have n2_:=Aside0.mk ((by rw [hg];exact (below_size (below_up HB.out)) : w.heap.size≤gb258));have n3_:=Aside0.mk ((by rw [hg];exact (below_size (below_up HB.out)) : w.heap.size≤gb258));clear HB;have HB:=n0_;have BK258:=n1_;have GW258:=n2_;have GE258:=n3_;clear n0_ n1_ n2_ n3_;clear hb hbox hg;have hcz46_0 : w45.cell? ⟨gb258,0,none⟩=some (.int .i64 a1_0):=(blk_cell BK258.out 0).trans rfl;have hcz46_1 : w45.cell? ⟨gb258,1,none⟩=some (.string a1_1):=(blk_cell BK258.out 1).trans rfl;have hfz46_0:=blk_frozen BK258.out 0;have hfz46_1:=blk_frozen BK258.out 1)|(go_at_call 20;(with_reducible refine (thresherref03_Fits.calls k a0 a1_0 a1_1 false _ A3.out).mono ?_);rintro e w47 ⟨rfl,hb⟩;have n0_:=Aside0.mk (blk_below (blk_up BK258.out) hb);have n1_:=Aside0.mk (below_step (below_go HB.out) hb);clear BK258;clear HB;have BK258:=n0_;have HB:=n1_;clear n0_ n1_;(try clear hb);(try clear hb2);(try clear hk);(try clear hi))))
  go_ret
  exact ⟨by first|rfl|(simp [errW_none,errW_some] <;> rfl)|(simp [*,errW_none,errW_some] <;> rfl),by repeat (first|(with_reducible first|exact HB.out|apply below_alloc|apply pw_below_drewN|apply below_drew1|refine below_set ?_ GE258.out)|exact HB.out)⟩
end Go.Proofs.YtifpjhghbafcjaaDoor.P

