/- Texts of ValueAll. Merged: Px15. -/
import Derived.Test.YtifpjhghbafcjaaDoorQValueAllPx0
namespace Go.Proofs.YtifpjhghbafcjaaDoor.P
open Go.RowKit Go.Proofs.YtifpjhghbafcjaaDoorW.PrintWords Go.Proofs.YtifpjhghbafcjaaDoorW.PrintLast Go.Proofs.YtifpjhghbafcjaaDoorW.PrintMore
attribute [local go_sem] max2_int min2_int max_two min_two max_three min_three max_four min_four   -- for this text's walks alone
set_option linter.unusedVariables false
set_option linter.unusedSimpArgs false
def thresherref03_half.j0 : Nat→Int→Bool→Option (Int)
 | 0,_,_=>none
 | k + 1,x0,x8=>if x8=true then (some ((x0 - 48) % 256)) else (if x0 ≥ 97 then (if x0≤102 then (some (((x0 - 97) % 256) + 10)) else (some (-1))) else (some (-1)))
def thresherref03_half.f (k : Nat) (a0 : Int) : Option (Int):=if a0 ≥ 48 then (thresherref03_half.j0 k a0 (decide (a0≤57))) else (thresherref03_half.j0 k a0 false)
theorem thresherref03_half.mono_l : ∀ k,(∀ y0 y1,LeO (thresherref03_half.j0 k y0 y1) (thresherref03_half.j0 (k + 1) y0 y1))
 | 0=>fun _ _ r h=>by simp [thresherref03_half.j0] at h
 | k + 1=>by
  have ih0:=thresherref03_half.mono_l k
  ·intro y0 y1
   unfold thresherref03_half.j0
   repeat' first
   | (with_reducible exact ih0 _ _)
   | (with_reducible exact LeO.refl _)
   | (with_reducible exact LeO.none _)
   | (with_reducible refine LeO.ite ?_ ?_)
   | (with_reducible refine LeO.bind ?_ (fun _=>?_))
   | exact ih0 _ _
   | exact LeO.none _
   | refine LeO.ite ?_ ?_
   | refine LeO.bind ?_ (fun _=>?_)
theorem thresherref03_half.mono : ∀ a0 k,LeO (thresherref03_half.f k a0) (thresherref03_half.f (k + 1) a0):=by
 intro a0 k
 have ih0:=thresherref03_half.mono_l k
 unfold thresherref03_half.f
 repeat' first
   | (with_reducible exact ih0 _ _)
   | (with_reducible exact LeO.refl _)
   | (with_reducible exact LeO.none _)
   | (with_reducible refine LeO.ite ?_ ?_)
   | (with_reducible refine LeO.bind ?_ (fun _=>?_))
   | exact ih0 _ _
   | exact LeO.none _
   | refine LeO.ite ?_ ?_
   | refine LeO.bind ?_ (fun _=>?_)
set_option maxHeartbeats 8000000 in
set_option maxRecDepth 100000 in
theorem thresherref03_half.calls (k : Nat) (a0 : Int) (r : Int) (w : World) (h : thresherref03_half.f k a0=some r) :
  Calls Tryd.prog 50 #[.int .u8 a0] w fun e w'=>e=.returned (.int .i64 r)∧Drawn0 w w':=by
 have H : (if a0 ≥ 48 then (thresherref03_half.j0 k a0 (decide (a0≤57))) else (thresherref03_half.j0 k a0 false))=some r:=h
 clear h
 have HC2:=Aside0.mk H
 clear H
 go_enter Tryd.func50,Tryd.ntmps50
 go_upto_region 1 with (fail)
 go_cut [8] (fun v8 wc=>∃ (kq : Nat) (x8_1 : Bool),v8=.bool x8_1∧Aside0 (thresherref03_half.j0 kq a0 x8_1=some r)∧Aside0 (kq≤k)∧Drawn0 w wc)
 case first =>
  have H:=HC2.out
  clear HC2
  by_cases c3 : a0 ≥ 48
  ·rw [if_pos c3] at H
   have c3b0 : decide (48≤a0)=true:=decide_eq_true c3
   clear c3
   (first|rw [c3b0]|(simp only [i64_w,i32_w];rw [c3b0])|skip)
   have H':=Aside0.mk H
   clear H
   go_wp2
   go_meet
   case rel=>exact ⟨_,(decide (a0≤57)),(by first|rfl|(simp;done)|(simp [*];done)),(by first|exact H'|(subst_vars;exact H')),⟨by first|omega|exact Nat.le_refl _⟩,by repeat (first|exact Drawn0.refl _|apply Drawn0.step)⟩
  ·rw [if_neg c3] at H
   have c3b0 : decide (48≤a0)=false:=decide_eq_false c3
   clear c3
   (first|rw [c3b0]|(simp only [i64_w,i32_w];rw [c3b0])|skip)
   have H':=Aside0.mk H
   clear H
   go_wp2
   go_meet
   case rel=>exact ⟨_,(false),(by first|rfl|(simp;done)|(simp [*];done)),(by first|exact H'|(subst_vars;exact H')),⟨by first|omega|exact Nat.le_refl _⟩,by repeat (first|exact Drawn0.refl _|apply Drawn0.step)⟩
 case rest =>
  clear HC2
  try clear p2
  try clear c3
  try clear c3b0
  obtain ⟨kq,x8_1,rfl,HA,HJ1,⟨mc1,rfl⟩⟩:=hcut
  cases kq with
  | zero=>exact absurd HA.out (by simp [thresherref03_half.j0])
  | succ kj1 =>
   have H:=HA.out
   clear HA
   simp only [thresherref03_half.j0] at H
   by_cases c4 : x8_1=true
   ·subst c4
    have H1 : (some ((a0 - 48) % 256))=some r:=by rw [if_pos rfl] at H;exact H
    clear H
    have H:=H1
    clear H1
    obtain rfl:=Option.some.inj H
    go_wp2
    go_ret
    exact ⟨by first|rfl|(simp;done)|(simp [*];done),by repeat (first|exact Drawn0.refl _|apply Drawn0.step)⟩
   ·replace c4:=Bool.eq_false_iff.mpr c4
    subst c4
    have H1 : (if a0 ≥ 97 then (if a0≤102 then (some (((a0 - 97) % 256) + 10)) else (some (-1))) else (some (-1)))=some r:=by rw [if_neg (show ¬ (false=true) by decide)] at H;exact H
    clear H
    have H:=H1
    clear H1
    by_cases c5 : a0 ≥ 97
    ·rw [if_pos c5] at H
     have c5b0 : decide (97≤a0)=true:=decide_eq_true c5
     clear c5
     by_cases c6 : a0≤102
     ·rw [if_pos c6] at H
      have c6b0 : decide (a0≤102)=true:=decide_eq_true c6
      clear c6
      obtain rfl:=Option.some.inj H
      go_wp2
      go_ret
      exact ⟨by first|rfl|(simp;done)|(simp [*];done),by repeat (first|exact Drawn0.refl _|apply Drawn0.step)⟩
     ·rw [if_neg c6] at H
      have c6b0 : decide (a0≤102)=false:=decide_eq_false c6
      clear c6
      obtain rfl:=Option.some.inj H
      go_wp2
      go_ret
      exact ⟨by first|rfl|(simp;done)|(simp [*];done),by repeat (first|exact Drawn0.refl _|apply Drawn0.step)⟩
    ·rw [if_neg c5] at H
     have c5b0 : decide (97≤a0)=false:=decide_eq_false c5
     clear c5
     obtain rfl:=Option.some.inj H
     go_wp2
     go_ret
     exact ⟨by first|rfl|(simp;done)|(simp [*];done),by repeat (first|exact Drawn0.refl _|apply Drawn0.step)⟩
mutual
def thresherref03_text.l0 : Nat→ByteArray→List Int→Int→Option (Int × ByteArray × Bool)
 | 0,_,_,_=>none
 | k + 1,x0,x4,x5=>if x5 < (wrap64 ((x0.size : Int) - 1)) then (if 0≤x5 then (if x5 < (x0.size : Int) then (if (bt x0 x5)=92 then (if (wrap64 (x5 + 2)) ≥ (x0.size : Int) then (thresherref03_text.j1 k x0 x4 x5 true) else (if 0≤(wrap64 (x5 + 1)) then (if (wrap64 (x5 + 1)) < (x0.size : Int) then ((thresherref03_half.f k (bt x0 (wrap64 (x5 + 1)))).bind fun t269=>(if t269 < 0 then (thresherref03_text.j1 k x0 x4 x5 true) else (if 0≤(wrap64 (x5 + 2)) then (if (wrap64 (x5 + 2)) < (x0.size : Int) then ((thresherref03_half.f k (bt x0 (wrap64 (x5 + 2)))).bind fun t270=>(thresherref03_text.j1 k x0 x4 x5 (decide (t270 < 0)))) else (none)) else (none)))) else (none)) else (none))) else (if x4.length < 140737488355328 then (thresherref03_text.l0 k x0 (x4 ++ [bt x0 x5]) (wrap64 (x5 + 1))) else (none))) else (none)) else (none)) else (some (0,strOfNums x4,true))
def thresherref03_text.j1 : Nat→ByteArray→List Int→Int→Bool→Option (Int × ByteArray × Bool)
 | 0,_,_,_,_=>none
 | k + 1,x0,x4,x5,x44=>if x44=true then (some (0,(⟨#[]⟩ : ByteArray),false)) else (if 0≤(wrap64 (x5 + 1)) then (if (wrap64 (x5 + 1)) < (x0.size : Int) then ((thresherref03_half.f k (bt x0 (wrap64 (x5 + 1)))).bind fun t271=>(if 0≤(wrap64 (x5 + 2)) then (if (wrap64 (x5 + 2)) < (x0.size : Int) then ((thresherref03_half.f k (bt x0 (wrap64 (x5 + 2)))).bind fun t272=>(if x4.length < 140737488355328 then (thresherref03_text.l0 k x0 (x4 ++ [(wrap64 ((wrap64 (t271 * 16)) + t272)) % 256]) (wrap64 ((wrap64 (x5 + 2)) + 1))) else (none))) else (none)) else (none))) else (none)) else (none))
end
def thresherref03_text.f (k : Nat) (a0 : ByteArray) : Option (Int × ByteArray × Bool):=thresherref03_text.l0 k a0 (([] : List Int)) 1
theorem thresherref03_text.mono_l : ∀ k,(∀ y0 y1 y2,LeO (thresherref03_text.l0 k y0 y1 y2) (thresherref03_text.l0 (k + 1) y0 y1 y2))∧(∀ y0 y1 y2 y3,LeO (thresherref03_text.j1 k y0 y1 y2 y3) (thresherref03_text.j1 (k + 1) y0 y1 y2 y3))
 | 0=>⟨fun _ _ _ r h=>by simp [thresherref03_text.l0] at h,fun _ _ _ _ r h=>by simp [thresherref03_text.j1] at h⟩
 | k + 1=>by
  obtain ⟨ih0,ih1⟩:=thresherref03_text.mono_l k
  refine ⟨?_,?_⟩
  ·intro y0 y1 y2
   unfold thresherref03_text.l0
   repeat' first
   | (with_reducible exact ih0 _ _ _)
   | (with_reducible exact ih1 _ _ _ _)
   | (with_reducible exact thresherref03_half.mono _ _)
   | (with_reducible exact LeO.refl _)
   | (with_reducible exact LeO.none _)
   | (with_reducible refine LeO.ite ?_ ?_)
   | (with_reducible refine LeO.bind ?_ (fun _=>?_))
   | exact ih0 _ _ _
   | exact ih1 _ _ _ _
   | exact thresherref03_half.mono _ _
   | exact LeO.none _
   | refine LeO.ite ?_ ?_
   | refine LeO.bind ?_ (fun _=>?_)
  ·intro y0 y1 y2 y3
   unfold thresherref03_text.j1
   repeat' first
   | (with_reducible exact ih0 _ _ _)
   | (with_reducible exact ih1 _ _ _ _)
   | (with_reducible exact thresherref03_half.mono _ _)
   | (with_reducible exact LeO.refl _)
   | (with_reducible exact LeO.none _)
   | (with_reducible refine LeO.ite ?_ ?_)
   | (with_reducible refine LeO.bind ?_ (fun _=>?_))
   | exact ih0 _ _ _
   | exact ih1 _ _ _ _
   | exact thresherref03_half.mono _ _
   | exact LeO.none _
   | refine LeO.ite ?_ ?_
   | refine LeO.bind ?_ (fun _=>?_)
theorem thresherref03_text.mono : ∀ a0 k,LeO (thresherref03_text.f k a0) (thresherref03_text.f (k + 1) a0):=by
 intro a0 k
 obtain ⟨ih0,ih1⟩:=thresherref03_text.mono_l k
 unfold thresherref03_text.f
 repeat' first
   | (with_reducible exact ih0 _ _ _)
   | (with_reducible exact ih1 _ _ _ _)
   | (with_reducible exact thresherref03_half.mono _ _)
   | (with_reducible exact LeO.refl _)
   | (with_reducible exact LeO.none _)
   | (with_reducible refine LeO.ite ?_ ?_)
   | (with_reducible refine LeO.bind ?_ (fun _=>?_))
   | exact ih0 _ _ _
   | exact ih1 _ _ _ _
   | exact thresherref03_half.mono _ _
   | exact LeO.none _
   | refine LeO.ite ?_ ?_
   | refine LeO.bind ?_ (fun _=>?_)
def thresherref03_text.T9 : Bool × List (List Nat × List Nat):=(true,[([],[]),([],[]),([],[]),([2],[2]),([1,3],[1,3]),([4],[4]),([5],[5]),([],[]),([],[]),([8],[8]),([7,9],[7,9]),([10,5],[10]),([6,11],[6,11]),([12],[12]),([13],[13]),([0,14,11],[0,14]),([15,15,0,1,2,3,4,5,6,7,8,9,10,11,12,13,14,15],[0,15])])
def thresherref03_text.B9 : List Nat:=[0,0,0,4,14,30,62,0,0,256,896,1982,4094,8190,16382,32767,65535]
theorem thresherref03_text.tab9 : rtab .any (opsOf Tryd.f33 9)=thresherref03_text.T9:=by kernel_rfl
theorem thresherref03_text.bits9 : waitsOk thresherref03_text.T9.2 thresherref03_text.B9=true:=by kernel_rfl
set_option maxHeartbeats 8000000 in
set_option maxRecDepth 100000 in
theorem thresherref03_text.calls (k : Nat) (a0 : ByteArray) (r1 : Int) (r2 : ByteArray) (r3 : Bool) (w : World) (h : thresherref03_text.f k a0=some (r1,r2,r3)) :
  Calls Tryd.prog 33 #[.string a0] w fun e w'=>e=.returned (.tuple #[.agg #[.int .i64 r1,.string r2],.bool r3])∧Below w.heap.size w w':=by
 have hu23:=Tryd.underlying23
 have HB:=Aside0.mk (Below.refl w.heap.size w)
 have H : (thresherref03_text.l0 k a0 (([] : List Int)) 1)=some (r1,r2,r3):=h
 clear h
 obtain ⟨y263,hy263⟩ : ∃ y_ : List Int,y_=(([] : List Int)):=⟨_,rfl⟩
 replace H : (thresherref03_text.l0 k a0 y263 1)=some (r1,r2,r3):=by first|(rw [hy263];with_reducible exact H)|(have H2_:=(Option.bind_some _ _).symm.trans H;rw [hy263];with_reducible exact H2_)|(have H2_:=(Option.bind_some _ _).symm.trans H;with_reducible exact H2_)|with_reducible exact H|(rw [hy263];exact H)|exact H
 have Ny263:=Aside0.mk hy263
 clear hy263
 have H':=Aside0.mk H
 clear H
 go_enter Tryd.func33,Tryd.ntmps33
 go_wp2_with (first|((with_reducible refine gate_dst (N:=2) rfl ?_);refine box_event ?hg (N:=2) ?hd (cs:=#[.int .i64 0,.string (⟨#[]⟩ : ByteArray)]) (t:=23) ?hr ?_;(case hd=>rfl);(case hg=>rfl);(case hr=>first|(go_simp;done)|(go_simp;rfl));intro gb262 hg w2 hbox hb;have n0_:=Aside0.mk (below_step (below_up HB.out) hb);have n1_:=Aside0.mk (hbox);have n2_:=Aside0.mk ((by rw [hg];exact (below_size (below_up HB.out)) : w.heap.size≤gb262));have n3_:=Aside0.mk ((by rw [hg];exact (below_size (below_up HB.out)) : w.heap.size≤gb262));clear HB;have HB:=n0_;have BK262:=n1_;have GW262:=n2_;have GE262:=n3_;clear n0_ n1_ n2_ n3_;clear hb hbox hg)|((with_reducible refine gate_dst (N:=6) rfl ?_);refine Kd.R_lit (Kd.int .u8) _ 5 ?hg (N:=6) ?hd (xs:=([] : List Int)) (inner:=[]) (ok:=fun _=>True) (okp:=fun _=>True) ?hr ?hp (fun _ hk=>hk) trivial (Below.refl _ _) (Nat.le_refl _) (by simp) ?_;(case hd=>rfl);(case hg=>rfl);(case hr=>first|(go_simp;done)|(go_simp;rfl));(case hp=>exact (Reps.none _ _));intro v264 w3 ho4 hb hg_ hnew_;clear hg_ hnew_;(first|rw [← Ny263.out] at ho4|(simp only [Int.reduceToNat] at ho4;rw [← Ny263.out] at ho4));have n0_:=Aside0.mk (Kd.R_lower ho4 (below_size (below_go HB.out)));have n1_:=Aside0.mk (blk_below (g:=gb262) (o:=.cells #[.int .i64 0,.string (⟨#[]⟩ : ByteArray)] 23 (0,0)) (blk_up BK262.out) hb);have n2_:=Aside0.mk (below_step (below_go HB.out) hb);clear BK262;clear HB;have HO265:=n0_;have BK262:=n1_;have HB:=n2_;clear n0_ n1_ n2_;clear hb ho4))
 go_loopg [4,5] k (fun kq v4 v5 w'=>∃ (x4_1 : List Int) (x5_1 : Int) (x263000_1 : Int) (x263001_1 : ByteArray),v5=.int .i64 x5_1∧Aside0 (thresherref03_text.l0 kq a0 x4_1 x5_1=some (r1,r2,r3))∧Aside0 (kq≤k)∧Aside0 (Kd.R (Kd.int .u8) 5 w' w.heap.size (fun _=>True) v4 x4_1)∧Aside0 (w'.heap[gb262]?=some (.cells #[.int .i64 x263000_1,.string x263001_1] 23 (0,0)))∧Aside0 (Below w.heap.size w w'))
 case atStart=>exact ⟨(y263),(1),(0),((⟨#[]⟩ : ByteArray)),(by first|rfl|(simp;done)|(simp [*];done)),H',⟨Nat.le_refl _⟩,⟨by (with_reducible repeat (first|apply Kd.R_alloc|apply Kd.R_drewN|apply Kd.R_drew));exact HO265.out⟩,⟨by (with_reducible repeat (first|refine blk_drewN ?_ _|refine blk_drew ?_|refine blk_alloc ?_ _));exact BK262.out⟩,⟨by repeat (first|(with_reducible first|exact HB.out|apply below_alloc|apply pw_below_drewN|apply below_drew1|refine below_set ?_ GE262.out)|exact HB.out)⟩⟩
 case round =>
  clear H'
  try clear p2
  try clear c3
  obtain ⟨x4_1,x5_1,x263000_1,x263001_1,rfl,HA,HK1,HO_4,BK262,HB⟩:=hrel
  cases gk with
  | zero=>exact absurd HA.out (by simp [thresherref03_text.l0])
  | succ k1 =>
   have H:=HA.out
   clear HA
   simp only [thresherref03_text.l0] at H
   by_cases c5 : x5_1 < (wrap64 ((a0.size : Int) - 1))
   ·rw [if_pos c5] at H
    have c5b0 : decide (x5_1 < (wrap64 ((a0.size : Int) - 1)))=true:=decide_eq_true c5
    clear c5
    by_cases c6 : 0≤x5_1
    ·rw [if_pos c6] at H
     have c6b0 : decide (0≤x5_1)=true:=decide_eq_true c6
     clear c6
     by_cases c7 : x5_1 < (a0.size : Int)
     ·rw [if_pos c7] at H
      have c7b0 : decide (x5_1 < (a0.size : Int))=true:=decide_eq_true c7
      clear c7
      by_cases c9 : (bt a0 x5_1)=92
      ·rw [if_pos c9] at H
       have c9b0 : ((bt a0 x5_1) == 92)=true:=beq_iff_eq.mpr c9
       have c9b1 : ((bt a0 x5_1) != 92)=false:=bne_eq_false_iff_eq.mpr c9
       clear c9
       have HC10:=Aside0.mk H
       clear H
       have p8 : 0≤(x5_1 : Int):=of_decide_eq_true (by first|(with_reducible assumption)|assumption)
       have q8 : x5_1 < (a0.size : Int):=of_decide_eq_true (by first|(with_reducible assumption)|assumption)
       have hx8:=bt_at a0 x5_1
       replace p8:=eq_true p8
       replace q8:=eq_true q8
       go_upto_region 7 with (fail)
       go_cut [44] (fun v44 wc=>∃ (kq : Nat) (x44_9 : Bool),v44=.bool x44_9∧Aside0 (thresherref03_text.j1 kq a0 x4_1 x5_1 x44_9=some (r1,r2,r3))∧Aside0 (kq≤k1)∧Aside0 (Kd.R (Kd.int .u8) 5 wc w.heap.size (fun _=>True) u4 x4_1)∧Aside0 (wc.heap[gb262]?=some (.cells #[.int .i64 x263000_1,.string x263001_1] 23 (0,0)))∧Aside0 (Below w.heap.size w wc))
       case first =>
        have H:=HC10.out
        clear HC10
        by_cases c11 : (wrap64 (x5_1 + 2)) ≥ (a0.size : Int)
        ·rw [if_pos c11] at H
         have c11b0 : decide ((a0.size : Int)≤(wrap64 (x5_1 + 2)))=true:=decide_eq_true c11
         clear c11
         (first|rw [c11b0]|(simp only [i64_w,i32_w];rw [c11b0])|skip)
         have H':=Aside0.mk H
         clear H
         go_wp2
         go_meet
         case rel=>exact ⟨_,(true),(by first|rfl|(simp;done)|(simp [*];done)),(by first|exact H'|(subst_vars;exact H')),⟨by have:=HK1.out;first|omega|exact Nat.le_refl _⟩,⟨by (with_reducible repeat (first|apply Kd.R_alloc|apply Kd.R_drewN|apply Kd.R_drew));exact HO_4.out⟩,⟨by (with_reducible repeat (first|refine blk_drewN ?_ _|refine blk_drew ?_|refine blk_alloc ?_ _));exact BK262.out⟩,⟨by repeat (first|(with_reducible first|exact HB.out|apply below_alloc|apply pw_below_drewN|apply below_drew1|refine below_set ?_ GE262.out)|exact HB.out)⟩⟩
        ·rw [if_neg c11] at H
         have c11b0 : decide ((a0.size : Int)≤(wrap64 (x5_1 + 2)))=false:=decide_eq_false c11
         clear c11
         (first|rw [c11b0]|(simp only [i64_w,i32_w];rw [c11b0])|skip)
         obtain ⟨ji12,hji12⟩ : ∃ j_ : Int,(wrap64 (x5_1 + 1))=j_:=⟨_,rfl⟩
         replace H : (if 0≤(ji12) then (if (ji12) < (a0.size : Int) then ((thresherref03_half.f k1 (bt a0 (ji12))).bind fun t269=>(if t269 < 0 then (thresherref03_text.j1 k1 a0 x4_1 x5_1 true) else (if 0≤(wrap64 (x5_1 + 2)) then (if (wrap64 (x5_1 + 2)) < (a0.size : Int) then ((thresherref03_half.f k1 (bt a0 (wrap64 (x5_1 + 2)))).bind fun t270=>(thresherref03_text.j1 k1 a0 x4_1 x5_1 (decide (t270 < 0)))) else (none)) else (none)))) else (none)) else (none))=some (r1,r2,r3):=by first|(rw [hji12] at H;exact H)|(simp only [hji12] at H ⊢;exact H)
         have hji12w : (IntKind.i64.wrap (x5_1 + 1))=ji12:=(i64_w _).trans hji12
         by_cases c13 : 0≤(ji12)
         ·rw [if_pos c13] at H
          have c13b0 : decide (0≤(ji12))=true:=decide_eq_true c13
          clear c13
          by_cases c14 : (ji12) < (a0.size : Int)
          ·rw [if_pos c14] at H
           have c14b0 : decide ((ji12) < (a0.size : Int))=true:=decide_eq_true c14
           clear c14
           replace H:=Option.bind_eq_some_iff.mp H
           obtain ⟨t269,A160,H⟩:=H
           replace H : (if t269 < 0 then (thresherref03_text.j1 k1 a0 x4_1 x5_1 true) else (if 0≤(wrap64 (x5_1 + 2)) then (if (wrap64 (x5_1 + 2)) < (a0.size : Int) then ((thresherref03_half.f k1 (bt a0 (wrap64 (x5_1 + 2)))).bind fun t270=>(thresherref03_text.j1 k1 a0 x4_1 x5_1 (decide (t270 < 0)))) else (none)) else (none)))=some (r1,r2,r3):=H
           have A16:=Aside0.mk A160
           clear A160
           by_cases c17 : t269 < 0
           ·rw [if_pos c17] at H
            have c17b0 : decide (t269 < 0)=true:=decide_eq_true c17
            clear c17
            have H':=Aside0.mk H
            clear H
            have p15 : 0≤((ji12) : Int):=of_decide_eq_true (by first|(with_reducible assumption)|assumption)
            have q15 : (ji12) < (a0.size : Int):=of_decide_eq_true (by first|(with_reducible assumption)|assumption)
            have hx15:=bt_at a0 (ji12)
            replace p15:=eq_true p15
            replace q15:=eq_true q15
            go_wp2_with (first|(go_at_call 50;(with_reducible refine (thresherref03_half.calls k1 (bt a0 (ji12)) t269 _ A16.out).mono ?_);rintro e w' ⟨rfl,⟨nd,rfl⟩⟩))
            go_meet
            case rel=>exact ⟨_,(true),(by first|rfl|(simp;done)|(simp [*];done)),(by first|exact H'|(subst_vars;exact H')),⟨by have:=HK1.out;first|omega|exact Nat.le_refl _⟩,⟨by (with_reducible repeat (first|apply Kd.R_alloc|apply Kd.R_drewN|apply Kd.R_drew));exact HO_4.out⟩,⟨by (with_reducible repeat (first|refine blk_drewN ?_ _|refine blk_drew ?_|refine blk_alloc ?_ _));exact BK262.out⟩,⟨by repeat (first|(with_reducible first|exact HB.out|apply below_alloc|apply pw_below_drewN|apply below_drew1|refine below_set ?_ GE262.out)|exact HB.out)⟩⟩
           ·rw [if_neg c17] at H
            have c17b0 : decide (t269 < 0)=false:=decide_eq_false c17
            clear c17
            obtain ⟨ji18,hji18⟩ : ∃ j_ : Int,(wrap64 (x5_1 + 2))=j_:=⟨_,rfl⟩
            replace H : (if 0≤(ji18) then (if (ji18) < (a0.size : Int) then ((thresherref03_half.f k1 (bt a0 (ji18))).bind fun t270=>(thresherref03_text.j1 k1 a0 x4_1 x5_1 (decide (t270 < 0)))) else (none)) else (none))=some (r1,r2,r3):=by first|(rw [hji18] at H;exact H)|(simp only [hji18] at H ⊢;exact H)
            (try rw [hji18] at c11b0)
            (try rw [hji18] at A16)
            have hji18w : (IntKind.i64.wrap (x5_1 + 2))=ji18:=(i64_w _).trans hji18
            by_cases c19 : 0≤(ji18)
            ·rw [if_pos c19] at H
             have c19b0 : decide (0≤(ji18))=true:=decide_eq_true c19
             clear c19
             by_cases c20 : (ji18) < (a0.size : Int)
             ·rw [if_pos c20] at H
              have c20b0 : decide ((ji18) < (a0.size : Int))=true:=decide_eq_true c20
              clear c20
              replace H:=Option.bind_eq_some_iff.mp H
              obtain ⟨t270,A220,H⟩:=H
              replace H : (thresherref03_text.j1 k1 a0 x4_1 x5_1 (decide (t270 < 0)))=some (r1,r2,r3):=H
              have A22:=Aside0.mk A220
              clear A220
              have H':=Aside0.mk H
              clear H
              have p15 : 0≤((ji12) : Int):=of_decide_eq_true (by first|(with_reducible assumption)|assumption)
              have q15 : (ji12) < (a0.size : Int):=of_decide_eq_true (by first|(with_reducible assumption)|assumption)
              have hx15:=bt_at a0 (ji12)
              replace p15:=eq_true p15
              replace q15:=eq_true q15
              go_wp2_with (first|(go_at_call 50;(with_reducible refine (thresherref03_half.calls k1 (bt a0 (ji12)) t269 _ A16.out).mono ?_);rintro e w' ⟨rfl,⟨nd,rfl⟩⟩;have p21 : 0≤((ji18) : Int):=of_decide_eq_true (by first|(with_reducible assumption)|assumption);have q21 : (ji18) < (a0.size : Int):=of_decide_eq_true (by first|(with_reducible assumption)|assumption);have hx21:=bt_at a0 (ji18);replace p21:=eq_true p21;replace q21:=eq_true q21)|(go_at_call 50;(with_reducible refine (thresherref03_half.calls k1 (bt a0 (ji18)) t270 _ A22.out).mono ?_);rintro e w' ⟨rfl,⟨nd,rfl⟩⟩))
              go_meet
              case rel=>exact ⟨_,(decide (t270 < 0)),(by first|rfl|(simp;done)|(simp [*];done)),(by first|exact H'|(subst_vars;exact H')),⟨by have:=HK1.out;first|omega|exact Nat.le_refl _⟩,⟨by (with_reducible repeat (first|apply Kd.R_alloc|apply Kd.R_drewN|apply Kd.R_drew));exact HO_4.out⟩,⟨by (with_reducible repeat (first|refine blk_drewN ?_ _|refine blk_drew ?_|refine blk_alloc ?_ _));exact BK262.out⟩,⟨by repeat (first|(with_reducible first|exact HB.out|apply below_alloc|apply pw_below_drewN|apply below_drew1|refine below_set ?_ GE262.out)|exact HB.out)⟩⟩
             ·rw [if_neg c20] at H
              exact absurd H (by simp)
            ·rw [if_neg c19] at H
             exact absurd H (by simp)
          ·rw [if_neg c14] at H
           exact absurd H (by simp)
         ·rw [if_neg c13] at H
          exact absurd H (by simp)
       case rest =>
        clear HC10
        try clear c1
        try clear p1
        try clear q1
        try clear hx1
        try clear c2
        try clear p2
        try clear q2
        try clear hx2
        try clear c3
        try clear c5
        try clear c5b0
        try clear c6
        try clear c6b0
        try clear p6
        try clear c7
        try clear c7b0
        try clear p8
        try clear q8
        try clear hx8
        try clear c9
        try clear c9b0
        try clear c9b1
        try clear c11
        try clear c11b0
        try clear c13
        try clear c13b0
        try clear c14
        try clear c14b0
        try clear p15
        try clear q15
        try clear hx15
        try clear c17
        try clear c17b0
        try clear c19
        try clear c19b0
        try clear c20
        try clear c20b0
        try clear p21
        try clear q21
        try clear hx21
        try clear p15
        try clear p2
        try clear p21
        try clear p8
        try clear q15
        try clear q21
        try clear q8
        obtain ⟨kq,x44_9,rfl,HA,HJ9,HO_4,BK262,HB⟩:=hcut
        cases kq with
        | zero=>exact absurd HA.out (by simp [thresherref03_text.j1])
        | succ kj9 =>
         have H:=HA.out
         clear HA
         simp only [thresherref03_text.j1] at H
         by_cases c23 : x44_9=true
         ·subst c23
          have H1 : (some (0,(⟨#[]⟩ : ByteArray),false))=some (r1,r2,r3):=by rw [if_pos rfl] at H;exact H
          clear H
          have H:=H1
          clear H1
          simp only [Option.some.injEq,Prod.mk.injEq] at H
          obtain ⟨rfl,rfl,rfl⟩:=H
          have hcz24_0 : wc.cell? ⟨gb262,0,none⟩=some (.int .i64 x263000_1):=(blk_cell BK262.out 0).trans rfl
          have hcz24_1 : wc.cell? ⟨gb262,1,none⟩=some (.string x263001_1):=(blk_cell BK262.out 1).trans rfl
          have hfz24_0:=blk_frozen BK262.out 0
          have hfz24_1:=blk_frozen BK262.out 1
          go_wp2
          refine bodyPost_ret (results_ct rfl _ _ gb262 23 #[.int .i64 0,.string (⟨#[]⟩ : ByteArray)] (0,0) _ rfl (by (with_reducible repeat (first|refine blk_drewN ?_ _|refine blk_drew ?_|refine blk_alloc ?_ _));refine blk_put (cs:=#[.int .i64 0,.string x263001_1]) ?_ 1 _ rfl;(with_reducible repeat (first|refine blk_drewN ?_ _|refine blk_drew ?_|refine blk_alloc ?_ _));refine blk_put (cs:=#[.int .i64 x263000_1,.string x263001_1]) ?_ 0 _ rfl;(with_reducible repeat (first|refine blk_drewN ?_ _|refine blk_drew ?_|refine blk_alloc ?_ _));exact BK262.out) Tryd.underlying23 rfl (by kernel_rfl)) rfl ?_
          exact ⟨by first|rfl|(simp [errW_none,errW_some] <;> rfl)|(simp [*,errW_none,errW_some] <;> rfl),by repeat (first|(with_reducible first|exact HB.out|apply below_alloc|apply pw_below_drewN|apply below_drew1|refine below_set ?_ GE262.out)|exact HB.out)⟩
         ·replace c23:=Bool.eq_false_iff.mpr c23
          subst c23
          have H1 : (if 0≤(wrap64 (x5_1 + 1)) then (if (wrap64 (x5_1 + 1)) < (a0.size : Int) then ((thresherref03_half.f kj9 (bt a0 (wrap64 (x5_1 + 1)))).bind fun t271=>(if 0≤(wrap64 (x5_1 + 2)) then (if (wrap64 (x5_1 + 2)) < (a0.size : Int) then ((thresherref03_half.f kj9 (bt a0 (wrap64 (x5_1 + 2)))).bind fun t272=>(if x4_1.length < 140737488355328 then (thresherref03_text.l0 kj9 a0 (x4_1 ++ [(wrap64 ((wrap64 (t271 * 16)) + t272)) % 256]) (wrap64 ((wrap64 (x5_1 + 2)) + 1))) else (none))) else (none)) else (none))) else (none)) else (none))=some (r1,r2,r3):=by rw [if_neg (show ¬ (false=true) by decide)] at H;exact H
          clear H
          have H:=H1
          clear H1
          obtain ⟨ji25,hji25⟩ : ∃ j_ : Int,(wrap64 (x5_1 + 1))=j_:=⟨_,rfl⟩
          replace H : (if 0≤(ji25) then (if (ji25) < (a0.size : Int) then ((thresherref03_half.f kj9 (bt a0 (ji25))).bind fun t271=>(if 0≤(wrap64 (x5_1 + 2)) then (if (wrap64 (x5_1 + 2)) < (a0.size : Int) then ((thresherref03_half.f kj9 (bt a0 (wrap64 (x5_1 + 2)))).bind fun t272=>(if x4_1.length < 140737488355328 then (thresherref03_text.l0 kj9 a0 (x4_1 ++ [(wrap64 ((wrap64 (t271 * 16)) + t272)) % 256]) (wrap64 ((wrap64 (x5_1 + 2)) + 1))) else (none))) else (none)) else (none))) else (none)) else (none))=some (r1,r2,r3):=by first|(rw [hji25] at H;exact H)|(simp only [hji25] at H ⊢;exact H)
          have hji25w : (IntKind.i64.wrap (x5_1 + 1))=ji25:=(i64_w _).trans hji25
          by_cases c26 : 0≤(ji25)
          ·rw [if_pos c26] at H
           have c26b0 : decide (0≤(ji25))=true:=decide_eq_true c26
           clear c26
           by_cases c27 : (ji25) < (a0.size : Int)
           ·rw [if_pos c27] at H
            have c27b0 : decide ((ji25) < (a0.size : Int))=true:=decide_eq_true c27
            clear c27
            replace H:=Option.bind_eq_some_iff.mp H
            obtain ⟨t271,A290,H⟩:=H
            replace H : (if 0≤(wrap64 (x5_1 + 2)) then (if (wrap64 (x5_1 + 2)) < (a0.size : Int) then ((thresherref03_half.f kj9 (bt a0 (wrap64 (x5_1 + 2)))).bind fun t272=>(if x4_1.length < 140737488355328 then (thresherref03_text.l0 kj9 a0 (x4_1 ++ [(wrap64 ((wrap64 (t271 * 16)) + t272)) % 256]) (wrap64 ((wrap64 (x5_1 + 2)) + 1))) else (none))) else (none)) else (none))=some (r1,r2,r3):=H
            have A29:=Aside0.mk A290
            clear A290
            obtain ⟨ji30,hji30⟩ : ∃ j_ : Int,(wrap64 (x5_1 + 2))=j_:=⟨_,rfl⟩
            replace H : (if 0≤(ji30) then (if (ji30) < (a0.size : Int) then ((thresherref03_half.f kj9 (bt a0 (ji30))).bind fun t272=>(if x4_1.length < 140737488355328 then (thresherref03_text.l0 kj9 a0 (x4_1 ++ [(wrap64 ((wrap64 (t271 * 16)) + t272)) % 256]) (wrap64 ((ji30) + 1))) else (none))) else (none)) else (none))=some (r1,r2,r3):=by first|(rw [hji30] at H;exact H)|(simp only [hji30] at H ⊢;exact H)
            (try rw [hji30] at A29)
            have hji30w : (IntKind.i64.wrap (x5_1 + 2))=ji30:=(i64_w _).trans hji30
            by_cases c31 : 0≤(ji30)
            ·rw [if_pos c31] at H
             have c31b0 : decide (0≤(ji30))=true:=decide_eq_true c31
             clear c31
             by_cases c32 : (ji30) < (a0.size : Int)
             ·rw [if_pos c32] at H
              have c32b0 : decide ((ji30) < (a0.size : Int))=true:=decide_eq_true c32
              clear c32
              replace H:=Option.bind_eq_some_iff.mp H
              obtain ⟨t272,A340,H⟩:=H
              replace H : (if x4_1.length < 140737488355328 then (thresherref03_text.l0 kj9 a0 (x4_1 ++ [(wrap64 ((wrap64 (t271 * 16)) + t272)) % 256]) (wrap64 ((ji30) + 1))) else (none))=some (r1,r2,r3):=H
              have A34:=Aside0.mk A340
              clear A340
              by_cases c35 : x4_1.length < 140737488355328
              ·rw [if_pos c35] at H
               have LMc35:=Aside0.mk c35
               clear c35
               obtain ⟨y273,hy273⟩ : ∃ y_ : List Int,y_=(x4_1 ++ [(wrap64 ((wrap64 (t271 * 16)) + t272)) % 256]):=⟨_,rfl⟩
               replace H : (thresherref03_text.l0 kj9 a0 y273 (wrap64 ((ji30) + 1)))=some (r1,r2,r3):=by first|(rw [hy273];with_reducible exact H)|(have H2_:=(Option.bind_some _ _).symm.trans H;rw [hy273];with_reducible exact H2_)|(have H2_:=(Option.bind_some _ _).symm.trans H;with_reducible exact H2_)|with_reducible exact H|(rw [hy273];exact H)|exact H
               have Ny273:=Aside0.mk hy273
               clear hy273
               have H':=Aside0.mk H
               clear H
               try go_wp2
               have n0_:=Aside0.mk (Kd.R_drew HO_4.out)
               have n1_:=Aside0.mk (blk_drew BK262.out)
               have n2_:=Aside0.mk (below_drew1 HB.out)
               clear HO_4
               clear BK262
               clear HB
               have HO_4:=n0_
               have BK262:=n1_
               have HB:=n2_
               clear n0_ n1_ n2_
               have p28 : 0≤((ji25) : Int):=of_decide_eq_true (by first|(with_reducible assumption)|assumption)
               have q28 : (ji25) < (a0.size : Int):=of_decide_eq_true (by first|(with_reducible assumption)|assumption)
               have hx28:=bt_at a0 (ji25)
               replace p28:=eq_true p28
               replace q28:=eq_true q28
               have p33 : 0≤((ji30) : Int):=of_decide_eq_true (by first|(with_reducible assumption)|assumption)
               have q33 : (ji30) < (a0.size : Int):=of_decide_eq_true (by first|(with_reducible assumption)|assumption)
               have hx33:=bt_at a0 (ji30)
               replace p33:=eq_true p33
               replace q33:=eq_true q33
               refine start_ (n:=17) (S:=fun w'=>True) (ds:=[]) #[false,false,false,false,false,false,false,false,false,false,false,false,false,false,false,false,false] (by kernel_rfl) rfl rfl trivial (fun hHeld=>?_);refine with_tabW thresherref03_text.tab9 thresherref03_text.bits9 (fun HT_ HW_=>?_)
               generalize wc.drew=w36 at HO_4 BK262 HB hHeld ⊢
               refine pure_ (i:=0) (N:=some 46) (v:=?_) (a':=?_) #[true,false,false,false,false,false,false,false,false,false,false,false,false,false,false,false,false] rfl rfl (any_of HT_.out (by kernel_rfl)) (fun _ _ _ h=>h) (Or.inl ⟨by rfl,?_⟩) ?_ ?_
               rotate_left;(intro w';go_simp;with_reducible rfl);rotate_left;(simp only [Act.put,List.setIfInBounds_toArray,List.set_cons_zero,List.set_cons_succ,i64_w,i32_w];rfl)
               refine pure_ (i:=1) (N:=some 47) (v:=?_) (a':=?_) #[true,true,false,false,false,false,false,false,false,false,false,false,false,false,false,false,false] rfl rfl (any_of HT_.out (by kernel_rfl)) (fun _ _ _ h=>h) (Or.inl ⟨by rfl,?_⟩) ?_ ?_
               rotate_left;(intro w';go_simp;with_reducible rfl);rotate_left;(simp only [Act.put,List.setIfInBounds_toArray,List.set_cons_zero,List.set_cons_succ,i64_w,i32_w];rfl)
               refine pure_ (i:=2) (N:=some 48) (v:=?_) (a':=?_) #[true,true,true,false,false,false,false,false,false,false,false,false,false,false,false,false,false] rfl rfl (any_of HT_.out (by kernel_rfl)) (fun _ _ _ h=>h) (Or.inl ⟨by rfl,?_⟩) ?_ ?_
               rotate_left;(intro w';go_simp;with_reducible rfl);rotate_left;(simp only [Act.put,List.setIfInBounds_toArray,List.set_cons_zero,List.set_cons_succ,i64_w,i32_w];rfl)
               refine pure_ (i:=3) (N:=some 49) (v:=?_) (a':=?_) #[true,true,true,true,false,false,false,false,false,false,false,false,false,false,false,false,false] rfl rfl (any_of HT_.out (by kernel_rfl)) (fun _ _ _ h=>h) (Or.inl ⟨by rfl,?_⟩) ?_ ?_
               rotate_left;(intro w';go_simp;with_reducible rfl);rotate_left;(simp only [Act.put,List.setIfInBounds_toArray,List.set_cons_zero,List.set_cons_succ,i64_w,i32_w];rfl)
               refine pure_ (i:=7) (N:=some 53) (v:=?_) (a':=?_) #[true,true,true,true,false,false,false,true,false,false,false,false,false,false,false,false,false] rfl rfl (any_of HT_.out (by kernel_rfl)) (fun _ _ _ h=>h) (Or.inl ⟨by rfl,?_⟩) ?_ ?_
               rotate_left;(intro w';go_simp;with_reducible rfl);rotate_left;(simp only [Act.put,List.setIfInBounds_toArray,List.set_cons_zero,List.set_cons_succ,i64_w,i32_w];rfl)
               refine pure_ (i:=8) (N:=some 54) (v:=?_) (a':=?_) #[true,true,true,true,false,false,false,true,true,false,false,false,false,false,false,false,false] rfl rfl (any_of HT_.out (by kernel_rfl)) (fun _ _ _ h=>h) (Or.inl ⟨by rfl,?_⟩) ?_ ?_
               rotate_left;(intro w';go_simp;with_reducible rfl);rotate_left;(simp only [Act.put,List.setIfInBounds_toArray,List.set_cons_zero,List.set_cons_succ,i64_w,i32_w];rfl)
               refine pure_ (i:=9) (N:=some 55) (v:=?_) (a':=?_) #[true,true,true,true,false,false,false,true,true,true,false,false,false,false,false,false,false] rfl rfl (any_of HT_.out (by kernel_rfl)) (fun _ _ _ h=>h) (Or.inl ⟨by rfl,?_⟩) ?_ ?_
               rotate_left;(intro w';go_simp;with_reducible rfl);rotate_left;(simp only [Act.put,List.setIfInBounds_toArray,List.set_cons_zero,List.set_cons_succ,i64_w,i32_w];rfl)
               refine take_ (i:=4) (N:=some 50) (v:=?_) (a':=?_) #[true,true,true,true,true,false,false,true,true,true,false,false,false,false,false,false,false] rfl rfl (take_ofW HT_.out HW_.out (by kernel_rfl)) (fun _ _ _ h=>h) (Or.inl ⟨by rfl,?_⟩) hHeld ?_ ?_
               rotate_left
               ·intro w' _
                go_simp
                with_reducible rfl
               rotate_left
               ·simp only [Act.put,List.setIfInBounds_toArray,List.set_cons_zero,List.set_cons_succ,i64_w,i32_w]
                rfl
               refine take_ (i:=10) (N:=some 56) (v:=?_) (a':=?_) #[true,true,true,true,true,false,false,true,true,true,true,false,false,false,false,false,false] rfl rfl (take_ofW HT_.out HW_.out (by kernel_rfl)) (fun _ _ _ h=>h) (Or.inl ⟨by rfl,?_⟩) hHeld ?_ ?_
               rotate_left
               ·intro w' _
                go_simp
                with_reducible rfl
               rotate_left
               ·simp only [Act.put,List.setIfInBounds_toArray,List.set_cons_zero,List.set_cons_succ,i64_w,i32_w]
                rfl
               refine one_ (i:=5) (N:=some 51) #[true,true,true,true,true,true,false,true,true,true,true,false,false,false,false,false,false] rfl rfl (one_of HT_.out (by kernel_rfl)) (by decide) (fun K hK=>?_)
               refine goes_ Tryd.func50 (by kernel_rfl) rfl #[.int .u8 (bt a0 (ji25))] (by rfl) rfl rfl (by (try simp only [List.map_toArray,List.map_cons,List.map_nil]);first|done|(simp only [hji25];rfl)|rfl|(simp only [List.length_drop,List.length_take];rfl)) ?_
               with_reducible refine (thresherref03_half.calls kj9 (bt a0 (ji25)) t271 _ A29.out).mono ?_
               rintro e w' ⟨rfl,⟨nd,rfl⟩⟩
               refine ⟨_,rfl,?_⟩
               refine hK.out _ _ trivial (fun hHeld=>?_)
               clear hK K
               refine norm_ (a':=?_) ?_ ?_
               rotate_left
               ·show Act.put _ (some 51) _=_
                simp only [Act.put,List.setIfInBounds_toArray,List.set_cons_zero,List.set_cons_succ,i64_w,i32_w]
                rfl
               refine pure_ (i:=6) (N:=some 52) (v:=?_) (a':=?_) #[true,true,true,true,true,true,true,true,true,true,true,false,false,false,false,false,false] rfl rfl (any_of HT_.out (by kernel_rfl)) (fun _ _ _ h=>h) (Or.inl ⟨by rfl,?_⟩) ?_ ?_
               rotate_left;(intro w';go_simp;with_reducible rfl);rotate_left;(simp only [Act.put,List.setIfInBounds_toArray,List.set_cons_zero,List.set_cons_succ,i64_w,i32_w];rfl)
               refine one_ (i:=11) (N:=some 57) #[true,true,true,true,true,true,true,true,true,true,true,true,false,false,false,false,false] rfl rfl (one_of HT_.out (by kernel_rfl)) (by decide) (fun K hK=>?_)
               refine goes_ Tryd.func50 (by kernel_rfl) rfl #[.int .u8 (bt a0 (ji30))] (by rfl) rfl rfl (by (try simp only [List.map_toArray,List.map_cons,List.map_nil]);first|done|(simp only [hji30];rfl)|rfl|(simp only [List.length_drop,List.length_take];rfl)) ?_
               with_reducible refine (thresherref03_half.calls kj9 (bt a0 (ji30)) t272 _ A34.out).mono ?_
               rintro e w' ⟨rfl,⟨nd,rfl⟩⟩
               refine ⟨_,rfl,?_⟩
               refine hK.out _ _ trivial (fun hHeld=>?_)
               clear hK K
               refine norm_ (a':=?_) ?_ ?_
               rotate_left
               ·show Act.put _ (some 57) _=_
                simp only [Act.put,List.setIfInBounds_toArray,List.set_cons_zero,List.set_cons_succ,i64_w,i32_w]
                rfl
               refine pure_ (i:=12) (N:=some 58) (v:=?_) (a':=?_) #[true,true,true,true,true,true,true,true,true,true,true,true,true,false,false,false,false] rfl rfl (any_of HT_.out (by kernel_rfl)) (fun _ _ _ h=>h) (Or.inl ⟨by rfl,?_⟩) ?_ ?_
               rotate_left;(intro w';go_simp;with_reducible rfl);rotate_left;(simp only [Act.put,List.setIfInBounds_toArray,List.set_cons_zero,List.set_cons_succ,i64_w,i32_w];rfl)
               refine pure_ (i:=13) (N:=some 59) (v:=?_) (a':=?_) #[true,true,true,true,true,true,true,true,true,true,true,true,true,true,false,false,false] rfl rfl (any_of HT_.out (by kernel_rfl)) (fun _ _ _ h=>h) (Or.inl ⟨by rfl,?_⟩) ?_ ?_
               rotate_left;(intro w';go_simp;with_reducible rfl);rotate_left;(simp only [Act.put,List.setIfInBounds_toArray,List.set_cons_zero,List.set_cons_succ,i64_w,i32_w];rfl)
               refine one_ (i:=14) (N:=some 60) #[true,true,true,true,true,true,true,true,true,true,true,true,true,true,true,false,false] rfl rfl (one_of HT_.out (by kernel_rfl)) (by decide) (fun K hK=>?_)
               refine value_ (w1:=?_) (v:=?_) (by rfl) rfl ?_ ?_
               rotate_left 2
               ·go_simp
                constructor
                ·rfl
                ·rfl
               refine hK.out _ _ trivial (fun hHeld=>?_)
               clear hK K
               refine norm_ (a':=?_) ?_ ?_
               rotate_left
               ·show Act.put _ (some 60) _=_
                simp only [Act.put,List.setIfInBounds_toArray,List.set_cons_zero,List.set_cons_succ,i64_w,i32_w]
                rfl
               refine one_ (i:=15) (N:=some 61) #[true,true,true,true,true,true,true,true,true,true,true,true,true,true,true,true,false] rfl rfl (one_of HT_.out (by kernel_rfl)) (by decide) (fun K hK=>?_)
               refine Kd.R_append_step (Kd.int .u8) (w0:=w) w.heap.size (by rfl) (.tmp 46) (.tmp 60) 65 5 (.int .u8 0) 1 rfl Tryd.underlying65 info5 rfl (by decide) (by omega) u4 x4_1 ((wrap64 ((wrap64 (t271 * 16)) + t272)) % 256) [.int .u8 ((wrap64 ((wrap64 (t271 * 16)) + t272)) % 256)] (fun _=>True) (fun _=>False) rfl rfl ?aP (fun _ hk=>hk.elim) ?aF ?aO ?aB ?aS ?aL ?_
               (case aP=>exact rfl)
               (case aB=>exact (below_go HB.out))
               (case aF=>exact (fun _ _=>trivial))
               (case aO=>exact (R_up HO_4.out))
               (case aS=>exact (below_size (below_go HB.out)))
               (case aL=>have:=LMc35.out;omega)
               intro v274 w37 ho hb hg hat
               rw [← Ny273.out] at ho
               have n0_:=Aside0.mk (blk_grown (blk_up BK262.out) hg (Kd.R_ne HO_4.out BK262.out (by decide)))
               have n1_:=Aside0.mk (hb)
               have n2_:=Aside0.mk (ho)
               clear BK262
               clear HB
               clear HO_4
               have BK262:=n0_
               have HB:=n1_
               have HO275:=n2_
               clear n0_ n1_ n2_
               clear ho hb hg hat
               refine hK.out _ _ trivial (fun hHeld=>?_)
               clear hK K
               refine norm_ (a':=?_) ?_ ?_
               rotate_left
               ·show Act.put _ (some 61) _=_
                simp only [Act.put,List.setIfInBounds_toArray,List.set_cons_zero,List.set_cons_succ,i64_w,i32_w]
                rfl
               refine pure_ (i:=16) (N:=some 4) (v:=?_) (a':=?_) #[true,true,true,true,true,true,true,true,true,true,true,true,true,true,true,true,true] rfl rfl (any_of HT_.out (by kernel_rfl)) (fun _ _ _ h=>h) (Or.inl ⟨by rfl,?_⟩) ?_ ?_
               rotate_left;(intro w';go_simp;with_reducible rfl);rotate_left;(simp only [Act.put,List.setIfInBounds_toArray,List.set_cons_zero,List.set_cons_succ,i64_w,i32_w];rfl)
               refine done_ (done_of HT_.out (by kernel_rfl)) ?_
               (try clear hHeld)
               try go_wp2
               go_roundg kj9
               case measure=>have:=HK1.out;have:=HJ9.out;omega
               case rel=>exact ⟨(y273),(wrap64 ((ji30) + 1)),(x263000_1),(x263001_1),(by first|rfl|(simp;done)|(simp only [← hji30] <;> (first|rfl|simp))|(simp [*];done)),(by first|exact H'|(subst_vars;exact H')),⟨by have:=HK1.out;have:=HJ9.out;omega⟩,⟨by (with_reducible repeat (first|apply Kd.R_alloc|apply Kd.R_drewN|apply Kd.R_drew));exact HO275.out⟩,⟨by (with_reducible repeat (first|refine blk_drewN ?_ _|refine blk_drew ?_|refine blk_alloc ?_ _));exact BK262.out⟩,⟨by repeat (first|(with_reducible first|exact HB.out|apply below_alloc|apply pw_below_drewN|apply below_drew1|refine below_set ?_ GE262.out)|exact HB.out)⟩⟩
              ·rw [if_neg c35] at H
               exact absurd H (by simp)
             ·rw [if_neg c32] at H
              exact absurd H (by simp)
            ·rw [if_neg c31] at H
             exact absurd H (by simp)
           ·rw [if_neg c27] at H
            exact absurd H (by simp)
          ·rw [if_neg c26] at H
           exact absurd H (by simp)
      ·rw [if_neg c9] at H
       have c9b0 : ((bt a0 x5_1) == 92)=false:=beq_eq_false_iff_ne.mpr c9
       have c9b1 : ((bt a0 x5_1) != 92)=true:=bne_iff_ne.mpr c9
       by_cases c39 : x4_1.length < 140737488355328
       ·rw [if_pos c39] at H
        have LMc39:=Aside0.mk c39
        clear c39
        obtain ⟨y266,hy266⟩ : ∃ y_ : List Int,y_=(x4_1 ++ [bt a0 x5_1]):=⟨_,rfl⟩
        replace H : (thresherref03_text.l0 k1 a0 y266 (wrap64 (x5_1 + 1)))=some (r1,r2,r3):=by first|(rw [hy266];with_reducible exact H)|(have H2_:=(Option.bind_some _ _).symm.trans H;rw [hy266];with_reducible exact H2_)|(have H2_:=(Option.bind_some _ _).symm.trans H;with_reducible exact H2_)|with_reducible exact H|(rw [hy266];exact H)|exact H
        have Ny266:=Aside0.mk hy266
        clear hy266
        have H':=Aside0.mk H
        clear H
        have p8 : 0≤(x5_1 : Int):=of_decide_eq_true (by first|(with_reducible assumption)|assumption)
        have q8 : x5_1 < (a0.size : Int):=of_decide_eq_true (by first|(with_reducible assumption)|assumption)
        have hx8:=bt_at a0 x5_1
        replace p8:=eq_true p8
        replace q8:=eq_true q8
        have p38 : 0≤(x5_1 : Int):=of_decide_eq_true (by first|(with_reducible assumption)|assumption)
        have q38 : x5_1 < (a0.size : Int):=of_decide_eq_true (by first|(with_reducible assumption)|assumption)
        have hx38:=bt_at a0 x5_1
        replace p38:=eq_true p38
        replace q38:=eq_true q38
        go_wp2_with (first|((with_reducible refine gate_builtin (b:=.append) (xs:=#[.tmp 18,.tmp 22]) rfl ?_);at_builtin;refine Kd.R_append (Kd.int .u8) (w0:=w) w.heap.size rfl (.tmp 18) (.tmp 22) 65 5 (.int .u8 0) 1 rfl Tryd.underlying65 info5 rfl (by decide) (by omega) u4 x4_1 (bt a0 x5_1) [.int .u8 (bt a0 x5_1)] (fun _=>True) (fun _=>False) rfl rfl ?aP (fun _ hk=>hk.elim) ?aF ?aO ?aB ?aS ?aL ?_;(case aP=>exact rfl);(case aB=>exact (below_go HB.out));(case aF=>exact (fun _ _=>trivial));(case aO=>exact (R_up HO_4.out));(case aS=>exact (below_size (below_go HB.out)));(case aL=>have:=LMc39.out;omega);intro v267 w40 ho hb hg hat;rw [← Ny266.out] at ho;have n0_:=Aside0.mk (blk_grown (blk_up BK262.out) hg (Kd.R_ne HO_4.out BK262.out (by decide)));have n1_:=Aside0.mk (hb);have n2_:=Aside0.mk (ho);clear BK262;clear HB;clear HO_4;have BK262:=n0_;have HB:=n1_;have HO268:=n2_;clear n0_ n1_ n2_;clear ho hb hg hat))
        go_roundg k1
        case measure=>have:=HK1.out;omega
        case rel=>exact ⟨(y266),(wrap64 (x5_1 + 1)),(x263000_1),(x263001_1),(by first|rfl|(simp;done)|(simp [*];done)),(by first|exact H'|(subst_vars;exact H')),⟨by have:=HK1.out;omega⟩,⟨by (with_reducible repeat (first|apply Kd.R_alloc|apply Kd.R_drewN|apply Kd.R_drew));exact HO268.out⟩,⟨by (with_reducible repeat (first|refine blk_drewN ?_ _|refine blk_drew ?_|refine blk_alloc ?_ _));exact BK262.out⟩,⟨by repeat (first|(with_reducible first|exact HB.out|apply below_alloc|apply pw_below_drewN|apply below_drew1|refine below_set ?_ GE262.out)|exact HB.out)⟩⟩
       ·rw [if_neg c39] at H
        exact absurd H (by simp)
     ·rw [if_neg c7] at H
      exact absurd H (by simp)
    ·rw [if_neg c6] at H
     exact absurd H (by simp)
   ·rw [if_neg c5] at H
    have c5b0 : decide (x5_1 < (wrap64 ((a0.size : Int) - 1)))=false:=decide_eq_false c5
    clear c5
    simp only [Option.some.injEq,Prod.mk.injEq] at H
    obtain ⟨rfl,rfl,rfl⟩:=H
    have hcv41:=own_string (P:=Tryd.prog) Tryd.underlying65 Tryd.underlying5 Tryd.underlying9 (Kd.own_of_R HO_4.out)
    have hcz42_0 : wr.cell? ⟨gb262,0,none⟩=some (.int .i64 x263000_1):=(blk_cell BK262.out 0).trans rfl
    have hcz42_1 : wr.cell? ⟨gb262,1,none⟩=some (.string x263001_1):=(blk_cell BK262.out 1).trans rfl
    have hfz42_0:=blk_frozen BK262.out 0
    have hfz42_1:=blk_frozen BK262.out 1
    go_wp2
    refine bodyPost_ret (results_ct rfl _ _ gb262 23 #[.int .i64 0,.string (strOfNums x4_1)] (0,0) _ rfl (by (with_reducible repeat (first|refine blk_drewN ?_ _|refine blk_drew ?_|refine blk_alloc ?_ _));refine blk_put (cs:=#[.int .i64 0,.string x263001_1]) ?_ 1 _ rfl;(with_reducible repeat (first|refine blk_drewN ?_ _|refine blk_drew ?_|refine blk_alloc ?_ _));refine blk_put (cs:=#[.int .i64 x263000_1,.string x263001_1]) ?_ 0 _ rfl;(with_reducible repeat (first|refine blk_drewN ?_ _|refine blk_drew ?_|refine blk_alloc ?_ _));exact BK262.out) Tryd.underlying23 rfl (by kernel_rfl)) rfl ?_
    exact ⟨by first|rfl|(simp [errW_none,errW_some] <;> rfl)|(simp [*,errW_none,errW_some] <;> rfl),by repeat (first|(with_reducible first|exact HB.out|apply below_alloc|apply pw_below_drewN|apply below_drew1|refine below_set ?_ GE262.out)|exact HB.out)⟩
end Go.Proofs.YtifpjhghbafcjaaDoor.P

