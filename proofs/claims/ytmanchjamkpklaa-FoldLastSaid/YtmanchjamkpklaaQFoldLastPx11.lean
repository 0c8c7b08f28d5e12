/- Texts of FoldLast. Merged: Px11. -/
import Derived.Test.YtmanchjamkpklaaQFoldLastPx0
import Derived.Test.YtmanchjamkpklaaQFoldLastPx6
import Derived.Test.YtmanchjamkpklaaQFoldLastPx10
namespace Go.Proofs.Ytmanchjamkpklaa.P
open Go.RowKit Go.Proofs.YtmanchjamkpklaaW.PrintWords Go.Proofs.YtmanchjamkpklaaW.PrintLast Go.Proofs.YtmanchjamkpklaaW.PrintMore
attribute [local go_sem] max2_int min2_int max_two min_two max_three min_three max_four min_four   -- for this text's walks alone
set_option linter.unusedVariables false
set_option linter.unusedSimpArgs false
def thresherref04_Rows.l0 : Nat→List (List (S45))→List (List (S45))→Int→Option (Bool)
 | 0,_,_,_=>none
 | k + 1,x0,x1,x5=>if x5 < (x0.length : Int) then (if 0≤x5 then (if x5 < (x1.length : Int) then ((thresherref04_One.f k (rd_L5 x0 x5) (rd_L5 x1 x5)).bind fun t265=>(if t265=true then (thresherref04_Rows.l0 k x0 x1 (wrap64 (x5 + 1))) else (some false))) else (none)) else (none)) else (some true)
def thresherref04_Rows.f (k : Nat) (l0 : List (List (S45))) (l1 : List (List (S45))) : Option (Bool):=if (l0.length : Int)=(l1.length : Int) then (thresherref04_Rows.l0 k l0 l1 0) else (some false)
theorem thresherref04_Rows.mono_l : ∀ k,(∀ y0 y1 y2,LeO (thresherref04_Rows.l0 k y0 y1 y2) (thresherref04_Rows.l0 (k + 1) y0 y1 y2))
 | 0=>fun _ _ _ r h=>by simp [thresherref04_Rows.l0] at h
 | k + 1=>by
  have ih0:=thresherref04_Rows.mono_l k
  ·intro y0 y1 y2
   unfold thresherref04_Rows.l0
   repeat' first
   | (with_reducible exact ih0 _ _ _)
   | (with_reducible exact thresherref04_One.mono _ _ _)
   | (with_reducible exact LeO.refl _)
   | (with_reducible exact LeO.none _)
   | (with_reducible refine LeO.ite ?_ ?_)
   | (with_reducible refine LeO.bind ?_ (fun _=>?_))
   | exact ih0 _ _ _
   | exact thresherref04_One.mono _ _ _
   | exact LeO.none _
   | refine LeO.ite ?_ ?_
   | refine LeO.bind ?_ (fun _=>?_)
theorem thresherref04_Rows.mono : ∀ a0 a1 k,LeO (thresherref04_Rows.f k a0 a1) (thresherref04_Rows.f (k + 1) a0 a1):=by
 intro a0 a1 k
 have ih0:=thresherref04_Rows.mono_l k
 unfold thresherref04_Rows.f
 repeat' first
   | (with_reducible exact ih0 _ _ _)
   | (with_reducible exact thresherref04_One.mono _ _ _)
   | (with_reducible exact LeO.refl _)
   | (with_reducible exact LeO.none _)
   | (with_reducible refine LeO.ite ?_ ?_)
   | (with_reducible refine LeO.bind ?_ (fun _=>?_))
   | exact ih0 _ _ _
   | exact thresherref04_One.mono _ _ _
   | exact LeO.none _
   | refine LeO.ite ?_ ?_
   | refine LeO.bind ?_ (fun _=>?_)
set_option maxHeartbeats 8000000 in
set_option maxRecDepth 100000 in
theorem thresherref04_Rows.calls (k : Nat) (A0 : Option Addr) (c0 : Nat) (l0 : List (List (S45))) (A1 : Option Addr) (c1 : Nat) (l1 : List (List (S45))) (r : Bool) (w : World) (hr0 : Kd.C (Kd.slice 45 k45) w A0 l0.length l0) (hc0 : l0.length≤c0) (hr1 : Kd.C (Kd.slice 45 k45) w A1 l1.length l1) (hc1 : l1.length≤c1) (h : thresherref04_Rows.f k l0 l1=some r) :
  Calls Try.prog 12 #[.slice A0 l0.length c0,.slice A1 l1.length c1] w fun e w'=>e=.returned (.bool r)∧Drawn0 w w':=by
 have HR0:=Aside0.mk hr0
 have HC0:=Aside0.mk hc0
 clear hr0 hc0
 have HR1:=Aside0.mk hr1
 have HC1:=Aside0.mk hc1
 clear hr1 hc1
 have H : (if (l0.length : Int)=(l1.length : Int) then (thresherref04_Rows.l0 k l0 l1 0) else (some false))=some r:=h
 clear h
 by_cases c3 : (l0.length : Int)=(l1.length : Int)
 ·rw [if_pos c3] at H
  have c3b0 : ((l0.length : Int) == (l1.length : Int))=true:=beq_iff_eq.mpr c3
  have c3b1 : ((l0.length : Int) != (l1.length : Int))=false:=bne_eq_false_iff_eq.mpr c3
  have c3b2 : (l0.length == l1.length)=true:=by first|simpa using c3|(simp at c3 ⊢;omega)
  clear c3
  have H':=Aside0.mk H
  clear H
  go_enter Try.func12,Try.ntmps12
  go_wp2
  repeat (go_quiet (fail);try go_wp2)
  go_loopg [5] k (fun kq v5 w'=>∃ (x5_1 : Int),v5=.int .i64 x5_1∧Aside0 (thresherref04_Rows.l0 kq l0 l1 x5_1=some r)∧Aside0 (kq≤k)∧Drawn0 w w')
  case atStart=>exact ⟨(0),(by first|rfl|(simp;done)|(simp [*];done)),H',⟨Nat.le_refl _⟩,by repeat (first|exact Drawn0.refl _|apply Drawn0.step)⟩
  case round =>
   clear H'
   try clear c1
   try clear p2
   try clear c3
   try clear c3b0
   try clear c3b1
   try clear c3b2
   obtain ⟨x5_1,rfl,HA,HK1,⟨m1,rfl⟩⟩:=hrel
   cases gk with
   | zero=>exact absurd HA.out (by simp [thresherref04_Rows.l0])
   | succ k1 =>
    have H:=HA.out
    clear HA
    simp only [thresherref04_Rows.l0] at H
    by_cases c4 : x5_1 < (l0.length : Int)
    ·rw [if_pos c4] at H
     have c4b0 : decide (x5_1 < (l0.length : Int))=true:=decide_eq_true c4
     clear c4
     by_cases c5 : 0≤x5_1
     ·rw [if_pos c5] at H
      have c5b0 : decide (0≤x5_1)=true:=decide_eq_true c5
      clear c5
      by_cases c6 : x5_1 < (l1.length : Int)
      ·rw [if_pos c6] at H
       have c6b0 : decide (x5_1 < (l1.length : Int))=true:=decide_eq_true c6
       clear c6
       replace H:=Option.bind_eq_some_iff.mp H
       obtain ⟨t265,A70,H⟩:=H
       replace H : (if t265=true then (thresherref04_Rows.l0 k1 l0 l1 (wrap64 (x5_1 + 1))) else (some false))=some r:=H
       have A7:=Aside0.mk A70
       clear A70
       by_cases c8 : t265=true
       ·subst c8
        have H1 : (thresherref04_Rows.l0 k1 l0 l1 (wrap64 (x5_1 + 1)))=some r:=by rw [if_pos rfl] at H;exact H
        clear H
        have H:=H1
        clear H1
        have H':=Aside0.mk H
        clear H
        have p263 : 0≤(x5_1 : Int):=of_decide_eq_true (by first|(with_reducible assumption)|assumption)
        have q263 : x5_1 < (l0.length : Int):=of_decide_eq_true (by first|(with_reducible assumption)|assumption)
        obtain ⟨ad263,A263_0,c263_0,e263,hx263_0,hl263_0,hi263_0⟩:=at_L5 HR0.out x5_1 p263 q263
        cases e263
        have HR263_0:=Aside0.mk hi263_0
        have HC263_0:=Aside0.mk hl263_0
        clear hi263_0 hl263_0
        replace p263:=eq_true p263
        replace q263:=eq_true q263
        have p264 : 0≤(x5_1 : Int):=of_decide_eq_true (by first|(with_reducible assumption)|assumption)
        have q264 : x5_1 < (l1.length : Int):=of_decide_eq_true (by first|(with_reducible assumption)|assumption)
        obtain ⟨ad264,A264_0,c264_0,e264,hx264_0,hl264_0,hi264_0⟩:=at_L5 HR1.out x5_1 p264 q264
        cases e264
        have HR264_0:=Aside0.mk hi264_0
        have HC264_0:=Aside0.mk hl264_0
        clear hi264_0 hl264_0
        replace p264:=eq_true p264
        replace q264:=eq_true q264
        go_wp2_with (first|(go_at_call 16;(with_reducible refine (thresherref04_One.calls k1 _ _ (rd_L5 l0 x5_1) _ _ (rd_L5 l1 x5_1) true _ ?side1 ?side2 ?side3 ?side4 A7.out).mono ?_);(case side1=>repeat (first|exact HR263_0.out|(with_reducible refine Kd.C_alloc ?_ _)|(with_reducible refine Kd.C_drewN ?_ _)|(with_reducible refine Kd.C_drew ?_)));(case side2=>exact HC263_0.out);(case side3=>repeat (first|exact HR264_0.out|(with_reducible refine Kd.C_alloc ?_ _)|(with_reducible refine Kd.C_drewN ?_ _)|(with_reducible refine Kd.C_drew ?_)));(case side4=>exact HC264_0.out);rintro e w' ⟨rfl,⟨nd,rfl⟩⟩;(try first|exact ⟨rfl,_,World.drewN_drewN _ _ _⟩|exact ⟨rfl,_,Eq.trans (World.drewN_drewN _ _ _) (congrArg (World.drewN _) (Nat.add_assoc _ _ _))⟩)))
        repeat (go_quiet (first|(go_at_call 16;(with_reducible refine (thresherref04_One.calls k1 _ _ (rd_L5 l0 x5_1) _ _ (rd_L5 l1 x5_1) true _ ?side1 ?side2 ?side3 ?side4 A7.out).mono ?_);(case side1=>repeat (first|exact HR263_0.out|(with_reducible refine Kd.C_alloc ?_ _)|(with_reducible refine Kd.C_drewN ?_ _)|(with_reducible refine Kd.C_drew ?_)));(case side2=>exact HC263_0.out);(case side3=>repeat (first|exact HR264_0.out|(with_reducible refine Kd.C_alloc ?_ _)|(with_reducible refine Kd.C_drewN ?_ _)|(with_reducible refine Kd.C_drew ?_)));(case side4=>exact HC264_0.out);rintro e w' ⟨rfl,⟨nd,rfl⟩⟩;(try first|exact ⟨rfl,_,World.drewN_drewN _ _ _⟩|exact ⟨rfl,_,Eq.trans (World.drewN_drewN _ _ _) (congrArg (World.drewN _) (Nat.add_assoc _ _ _))⟩)));try go_wp2_with (first|(go_at_call 16;(with_reducible refine (thresherref04_One.calls k1 _ _ (rd_L5 l0 x5_1) _ _ (rd_L5 l1 x5_1) true _ ?side1 ?side2 ?side3 ?side4 A7.out).mono ?_);(case side1=>repeat (first|exact HR263_0.out|(with_reducible refine Kd.C_alloc ?_ _)|(with_reducible refine Kd.C_drewN ?_ _)|(with_reducible refine Kd.C_drew ?_)));(case side2=>exact HC263_0.out);(case side3=>repeat (first|exact HR264_0.out|(with_reducible refine Kd.C_alloc ?_ _)|(with_reducible refine Kd.C_drewN ?_ _)|(with_reducible refine Kd.C_drew ?_)));(case side4=>exact HC264_0.out);rintro e w' ⟨rfl,⟨nd,rfl⟩⟩;(try first|exact ⟨rfl,_,World.drewN_drewN _ _ _⟩|exact ⟨rfl,_,Eq.trans (World.drewN_drewN _ _ _) (congrArg (World.drewN _) (Nat.add_assoc _ _ _))⟩))))
        go_roundg k1
        case measure=>have:=HK1.out;omega
        case rel=>exact ⟨(wrap64 (x5_1 + 1)),(by first|rfl|(simp;done)|(simp [*];done)),(by first|exact H'|(subst_vars;exact H')),⟨by have:=HK1.out;omega⟩,by repeat (first|exact Drawn0.refl _|apply Drawn0.step)⟩
       ·replace c8:=Bool.eq_false_iff.mpr c8
        subst c8
        have H1 : (some false)=some r:=by rw [if_neg (show ¬ (false=true) by decide)] at H;exact H
        clear H
        have H:=H1
        clear H1
        obtain rfl:=Option.some.inj H
        have p263 : 0≤(x5_1 : Int):=of_decide_eq_true (by first|(with_reducible assumption)|assumption)
        have q263 : x5_1 < (l0.length : Int):=of_decide_eq_true (by first|(with_reducible assumption)|assumption)
        obtain ⟨ad263,A263_0,c263_0,e263,hx263_0,hl263_0,hi263_0⟩:=at_L5 HR0.out x5_1 p263 q263
        cases e263
        have HR263_0:=Aside0.mk hi263_0
        have HC263_0:=Aside0.mk hl263_0
        clear hi263_0 hl263_0
        replace p263:=eq_true p263
        replace q263:=eq_true q263
        have p264 : 0≤(x5_1 : Int):=of_decide_eq_true (by first|(with_reducible assumption)|assumption)
        have q264 : x5_1 < (l1.length : Int):=of_decide_eq_true (by first|(with_reducible assumption)|assumption)
        obtain ⟨ad264,A264_0,c264_0,e264,hx264_0,hl264_0,hi264_0⟩:=at_L5 HR1.out x5_1 p264 q264
        cases e264
        have HR264_0:=Aside0.mk hi264_0
        have HC264_0:=Aside0.mk hl264_0
        clear hi264_0 hl264_0
        replace p264:=eq_true p264
        replace q264:=eq_true q264
        go_wp2_with (first|(go_at_call 16;(with_reducible refine (thresherref04_One.calls k1 _ _ (rd_L5 l0 x5_1) _ _ (rd_L5 l1 x5_1) false _ ?side1 ?side2 ?side3 ?side4 A7.out).mono ?_);(case side1=>repeat (first|exact HR263_0.out|(with_reducible refine Kd.C_alloc ?_ _)|(with_reducible refine Kd.C_drewN ?_ _)|(with_reducible refine Kd.C_drew ?_)));(case side2=>exact HC263_0.out);(case side3=>repeat (first|exact HR264_0.out|(with_reducible refine Kd.C_alloc ?_ _)|(with_reducible refine Kd.C_drewN ?_ _)|(with_reducible refine Kd.C_drew ?_)));(case side4=>exact HC264_0.out);rintro e w' ⟨rfl,⟨nd,rfl⟩⟩;(try first|exact ⟨rfl,_,World.drewN_drewN _ _ _⟩|exact ⟨rfl,_,Eq.trans (World.drewN_drewN _ _ _) (congrArg (World.drewN _) (Nat.add_assoc _ _ _))⟩)))
        repeat (go_quiet (first|(go_at_call 16;(with_reducible refine (thresherref04_One.calls k1 _ _ (rd_L5 l0 x5_1) _ _ (rd_L5 l1 x5_1) false _ ?side1 ?side2 ?side3 ?side4 A7.out).mono ?_);(case side1=>repeat (first|exact HR263_0.out|(with_reducible refine Kd.C_alloc ?_ _)|(with_reducible refine Kd.C_drewN ?_ _)|(with_reducible refine Kd.C_drew ?_)));(case side2=>exact HC263_0.out);(case side3=>repeat (first|exact HR264_0.out|(with_reducible refine Kd.C_alloc ?_ _)|(with_reducible refine Kd.C_drewN ?_ _)|(with_reducible refine Kd.C_drew ?_)));(case side4=>exact HC264_0.out);rintro e w' ⟨rfl,⟨nd,rfl⟩⟩;(try first|exact ⟨rfl,_,World.drewN_drewN _ _ _⟩|exact ⟨rfl,_,Eq.trans (World.drewN_drewN _ _ _) (congrArg (World.drewN _) (Nat.add_assoc _ _ _))⟩)));try go_wp2_with (first|(go_at_call 16;(with_reducible refine (thresherref04_One.calls k1 _ _ (rd_L5 l0 x5_1) _ _ (rd_L5 l1 x5_1) false _ ?side1 ?side2 ?side3 ?side4 A7.out).mono ?_);(case side1=>repeat (first|exact HR263_0.out|(with_reducible refine Kd.C_alloc ?_ _)|(with_reducible refine Kd.C_drewN ?_ _)|(with_reducible refine Kd.C_drew ?_)));(case side2=>exact HC263_0.out);(case side3=>repeat (first|exact HR264_0.out|(with_reducible refine Kd.C_alloc ?_ _)|(with_reducible refine Kd.C_drewN ?_ _)|(with_reducible refine Kd.C_drew ?_)));(case side4=>exact HC264_0.out);rintro e w' ⟨rfl,⟨nd,rfl⟩⟩;(try first|exact ⟨rfl,_,World.drewN_drewN _ _ _⟩|exact ⟨rfl,_,Eq.trans (World.drewN_drewN _ _ _) (congrArg (World.drewN _) (Nat.add_assoc _ _ _))⟩))))
        go_ret
        exact ⟨by first|rfl|(simp;done)|(simp [*];done),by repeat (first|exact Drawn0.refl _|apply Drawn0.step)⟩
      ·rw [if_neg c6] at H
       exact absurd H (by simp)
     ·rw [if_neg c5] at H
      exact absurd H (by simp)
    ·rw [if_neg c4] at H
     have c4b0 : decide (x5_1 < (l0.length : Int))=false:=decide_eq_false c4
     clear c4
     obtain rfl:=Option.some.inj H
     go_wp2
     repeat (go_quiet (fail);try go_wp2)
     go_ret
     exact ⟨by first|rfl|(simp;done)|(simp [*];done),by repeat (first|exact Drawn0.refl _|apply Drawn0.step)⟩
 ·rw [if_neg c3] at H
  have c3b0 : ((l0.length : Int) == (l1.length : Int))=false:=beq_eq_false_iff_ne.mpr c3
  have c3b1 : ((l0.length : Int) != (l1.length : Int))=true:=bne_iff_ne.mpr c3
  have c3b2 : (l0.length == l1.length)=false:=by first|simpa using c3|(simp at c3 ⊢;omega)
  obtain rfl:=Option.some.inj H
  go_enter Try.func12,Try.ntmps12
  go_wp2
  repeat (go_quiet (fail);try go_wp2)
  go_ret
  exact ⟨by first|rfl|(simp;done)|(simp [*];done),by repeat (first|exact Drawn0.refl _|apply Drawn0.step)⟩
def thresherref03_Add.f (k : Nat) (a0 : Int) (a1_0 : Int) (a1_1 : ByteArray) (a2_0 : Int) (a2_1 : ByteArray) : Option (Int × ByteArray):=(thresherref03_both.f k a0 a1_0 a1_1 a2_0 a2_1).bind fun t269=>(if t269=true then (if a0=3 then (some (a2_0,a2_1)) else (some (wrap64 (a1_0 + a2_0),(⟨#[]⟩ : ByteArray)))) else (some (0,(⟨#[]⟩ : ByteArray))))
theorem thresherref03_Add.mono : ∀ a0 a1 a2 a3 a4 k,LeO (thresherref03_Add.f k a0 a1 a2 a3 a4) (thresherref03_Add.f (k + 1) a0 a1 a2 a3 a4):=by
 intro a0 a1 a2 a3 a4 k
 unfold thresherref03_Add.f
 repeat' first
   | (with_reducible exact thresherref03_both.mono _ _ _ _ _ _)
   | (with_reducible exact LeO.refl _)
   | (with_reducible exact LeO.none _)
   | (with_reducible refine LeO.ite ?_ ?_)
   | (with_reducible refine LeO.bind ?_ (fun _=>?_))
   | exact thresherref03_both.mono _ _ _ _ _ _
   | exact LeO.none _
   | refine LeO.ite ?_ ?_
   | refine LeO.bind ?_ (fun _=>?_)
set_option maxHeartbeats 8000000 in
set_option maxRecDepth 100000 in
theorem thresherref03_Add.calls (k : Nat) (a0 : Int) (a1_0 : Int) (a1_1 : ByteArray) (a2_0 : Int) (a2_1 : ByteArray) (r1 : Int) (r2 : ByteArray) (w : World) (h : thresherref03_Add.f k a0 a1_0 a1_1 a2_0 a2_1=some (r1,r2)) :
  Calls Try.prog 25 #[.int .i64 a0,.agg #[.int .i64 a1_0,.string a1_1],.agg #[.int .i64 a2_0,.string a2_1]] w fun e w'=>e=.returned (.agg #[.int .i64 r1,.string r2])∧Below w.heap.size w w':=by
 have hu45:=Try.underlying45
 have HB:=Aside0.mk (Below.refl w.heap.size w)
 have H : ((thresherref03_both.f k a0 a1_0 a1_1 a2_0 a2_1).bind fun t269=>(if t269=true then (if a0=3 then (some (a2_0,a2_1)) else (some (wrap64 (a1_0 + a2_0),(⟨#[]⟩ : ByteArray)))) else (some (0,(⟨#[]⟩ : ByteArray)))))=some (r1,r2):=h
 clear h
 replace H:=Option.bind_eq_some_iff.mp H
 obtain ⟨t269,A40,H⟩:=H
 replace H : (if t269=true then (if a0=3 then (some (a2_0,a2_1)) else (some (wrap64 (a1_0 + a2_0),(⟨#[]⟩ : ByteArray)))) else (some (0,(⟨#[]⟩ : ByteArray))))=some (r1,r2):=H
 have A4:=Aside0.mk A40
 clear A40
 by_cases c5 : t269=true
 ·subst c5
  have H1 : (if a0=3 then (some (a2_0,a2_1)) else (some (wrap64 (a1_0 + a2_0),(⟨#[]⟩ : ByteArray))))=some (r1,r2):=by rw [if_pos rfl] at H;exact H
  clear H
  have H:=H1
  clear H1
  by_cases c6 : a0=3
  ·rw [if_pos c6] at H
   have c6b0 : (a0 == 3)=true:=beq_iff_eq.mpr c6
   have c6b1 : (a0 != 3)=false:=bne_eq_false_iff_eq.mpr c6
   clear c6
   simp only [Option.some.injEq,Prod.mk.injEq] at H
   obtain ⟨rfl,rfl⟩:=H
   go_enter Try.func25,Try.ntmps25
   go_wp2_with (first|((with_reducible refine gate_dst (N:=4) rfl ?_);refine box_event ?hg (N:=4) ?hd (cs:=#[.int .i64 a1_0,.string a1_1]) (t:=45) ?hr ?_;(case hd=>rfl);(case hg=>rfl);(case hr=>first|(go_simp;done)|(go_simp;rfl));intro gb266 hg w7 hbox hb;have n0_:=Aside0.mk (below_step (by repeat (first|(with_reducible first|exact HB.out|apply below_alloc|apply pw_below_drewN|apply below_drew1)|exact HB.out)) hb);have n1_:=Aside0.mk (hbox);have n2_:=Aside0.mk ((by rw [hg];exact (below_size (by repeat (first|(with_reducible first|exact HB.out|apply below_alloc|apply pw_below_drewN|apply below_drew1)|exact HB.out))) : w.heap.size≤gb266));have n3_:=Aside0.mk ((by rw [hg];exact (below_size (by repeat (first|(with_reducible first|exact HB.out|apply below_alloc|apply pw_below_drewN|apply below_drew1)|exact HB.out))) : w.heap.size≤gb266));clear HB;have HB:=n0_;have BK266:=n1_;have GW266:=n2_;have GE266:=n3_;clear n0_ n1_ n2_ n3_;clear hb hbox hg)|((with_reducible refine gate_dst (N:=5) rfl ?_);refine box_event ?hg (N:=5) ?hd (cs:=#[.int .i64 a2_0,.string a2_1]) (t:=45) ?hr ?_;(case hd=>rfl);(case hg=>rfl);(case hr=>first|(go_simp;done)|(go_simp;rfl));intro gb267 hg w8 hbox hb;have n0_:=Aside0.mk (blk_below (g:=gb266) (o:=.cells #[.int .i64 a1_0,.string a1_1] 45 (0,0)) (by (with_reducible repeat (first|refine blk_drewN ?_ _|refine blk_drew ?_|refine blk_alloc ?_ _));exact BK266.out) hb);have n1_:=Aside0.mk (below_step (by repeat (first|(with_reducible first|exact HB.out|apply below_alloc|apply pw_below_drewN|apply below_drew1|refine below_set ?_ GE266.out)|exact HB.out)) hb);have n2_:=Aside0.mk (hbox);have n3_:=Aside0.mk ((by rw [hg];exact (below_size (by repeat (first|(with_reducible first|exact HB.out|apply below_alloc|apply pw_below_drewN|apply below_drew1|refine below_set ?_ GE266.out)|exact HB.out))) : w.heap.size≤gb267));have n4_:=Aside0.mk ((by rw [hg];exact (below_size (by repeat (first|(with_reducible first|exact HB.out|apply below_alloc|apply pw_below_drewN|apply below_drew1|refine below_set ?_ GE266.out)|exact HB.out))) : w.heap.size≤gb267));have n5_:=Aside0.mk ((by rw [hg];exact Nat.ne_of_lt (blk_lt (g:=gb266) (o:=.cells #[.int .i64 a1_0,.string a1_1] 45 (0,0)) (by (with_reducible repeat (first|refine blk_drewN ?_ _|refine blk_drew ?_|refine blk_alloc ?_ _));exact BK266.out)) : gb266≠gb267));have n6_:=Aside0.mk ((by rw [hg];exact Nat.ne_of_gt (blk_lt (g:=gb266) (o:=.cells #[.int .i64 a1_0,.string a1_1] 45 (0,0)) (by (with_reducible repeat (first|refine blk_drewN ?_ _|refine blk_drew ?_|refine blk_alloc ?_ _));exact BK266.out)) : gb267≠gb266));clear BK266;clear HB;have BK266:=n0_;have HB:=n1_;have BK267:=n2_;have GW267:=n3_;have GE267:=n4_;have NB266_267:=n5_;have NB267_266:=n6_;clear n0_ n1_ n2_ n3_ n4_ n5_ n6_;clear hb hbox hg)|((with_reducible refine gate_dst (N:=6) rfl ?_);refine box_event ?hg (N:=6) ?hd (cs:=#[.int .i64 0,.string (⟨#[]⟩ : ByteArray)]) (t:=45) ?hr ?_;(case hd=>rfl);(case hg=>rfl);(case hr=>first|(go_simp;done)|(go_simp;rfl));intro gb268 hg w9 hbox hb;have n0_:=Aside0.mk (blk_below (g:=gb266) (o:=.cells #[.int .i64 a1_0,.string a1_1] 45 (0,0)) (by (with_reducible repeat (first|refine blk_drewN ?_ _|refine blk_drew ?_|refine blk_alloc ?_ _));exact BK266.out) hb);have n1_:=Aside0.mk (blk_below (g:=gb267) (o:=.cells #[.int .i64 a2_0,.string a2_1] 45 (0,0)) (by (with_reducible repeat (first|refine blk_drewN ?_ _|refine blk_drew ?_|refine blk_alloc ?_ _));exact BK267.out) hb);have n2_:=Aside0.mk (below_step (by repeat (first|(with_reducible first|exact HB.out|apply below_alloc|apply pw_below_drewN|apply below_drew1|refine below_set ?_ GE266.out|refine below_set ?_ GE267.out)|exact HB.out)) hb);have n3_:=Aside0.mk (hbox);have n4_:=Aside0.mk ((by rw [hg];exact (below_size (by repeat (first|(with_reducible first|exact HB.out|apply below_alloc|apply pw_below_drewN|apply below_drew1|refine below_set ?_ GE266.out|refine below_set ?_ GE267.out)|exact HB.out))) : w.heap.size≤gb268));have n5_:=Aside0.mk ((by rw [hg];exact (below_size (by repeat (first|(with_reducible first|exact HB.out|apply below_alloc|apply pw_below_drewN|apply below_drew1|refine below_set ?_ GE266.out|refine below_set ?_ GE267.out)|exact HB.out))) : w.heap.size≤gb268));have n6_:=Aside0.mk ((by rw [hg];exact Nat.ne_of_lt (blk_lt (g:=gb266) (o:=.cells #[.int .i64 a1_0,.string a1_1] 45 (0,0)) (by (with_reducible repeat (first|refine blk_drewN ?_ _|refine blk_drew ?_|refine blk_alloc ?_ _));exact BK266.out)) : gb266≠gb268));have n7_:=Aside0.mk ((by rw [hg];exact Nat.ne_of_gt (blk_lt (g:=gb266) (o:=.cells #[.int .i64 a1_0,.string a1_1] 45 (0,0)) (by (with_reducible repeat (first|refine blk_drewN ?_ _|refine blk_drew ?_|refine blk_alloc ?_ _));exact BK266.out)) : gb268≠gb266));have n8_:=Aside0.mk ((by rw [hg];exact Nat.ne_of_lt (blk_lt (g:=gb267) (o:=.cells #[.int .i64 a2_0,.string a2_1] 45 (0,0)) (by (with_reducible repeat (first|refine blk_drewN ?_ _|refine blk_drew ?_|refine blk_alloc ?_ _));exact BK267.out)) : gb267≠gb268));have n9_:=Aside0.mk ((by rw [hg];exact Nat.ne_of_gt (blk_lt (g:=gb267) (o:=.cells #[.int .i64 a2_0,.string a2_1] 45 (0,0)) (by (with_reducible repeat (first|refine blk_drewN ?_ _|refine blk_drew ?_|refine blk_alloc ?_ _));exact BK267.out)) : gb268≠gb267));clear BK266;clear BK267;clear HB;have BK266:=n0_;have BK267:=n1_;have HB:=n2_;have BK268:=n3_;have GW268:=n4_;have GE268:=n5_;have NB266_268:=n6_;have NB268_266:=n7_;have NB267_268:=n8_;have NB268_267:=n9_;clear n0_ n1_ n2_ n3_ n4_ n5_ n6_ n7_ n8_ n9_;clear hb hbox hg;have hnb10:=NB266_267.out;have hnc10:=NB267_266.out;have hnb11:=NB266_268.out;have hnc11:=NB268_266.out;have hcz12_0 : w9.cell? ⟨gb266,0,none⟩=some (.int .i64 a1_0):=(blk_cell BK266.out 0).trans rfl;have hcz12_1 : w9.cell? ⟨gb266,1,none⟩=some (.string a1_1):=(blk_cell BK266.out 1).trans rfl;have hfz12_0:=blk_frozen BK266.out 0;have hfz12_1:=blk_frozen BK266.out 1;have hnb13:=NB267_268.out;have hnc13:=NB268_267.out;have hcz14_0 : w9.cell? ⟨gb267,0,none⟩=some (.int .i64 a2_0):=(blk_cell BK267.out 0).trans rfl;have hcz14_1 : w9.cell? ⟨gb267,1,none⟩=some (.string a2_1):=(blk_cell BK267.out 1).trans rfl;have hfz14_0:=blk_frozen BK267.out 0;have hfz14_1:=blk_frozen BK267.out 1)|((with_reducible refine gate_callee (f:=27) rfl ?_);refine goesL_ (some 11) rfl rfl Try.func27 (by kernel_rfl) rfl #[.int .i64 a0,.agg #[.int .i64 a1_0,.string a1_1],.agg #[.int .i64 a2_0,.string a2_1]] rfl (by (try simp only [List.map_toArray,List.map_cons,List.map_nil]);first|done|rfl|(simp only [List.length_drop,List.length_take];rfl)) ?_;(with_reducible refine (thresherref03_both.calls k a0 a1_0 a1_1 a2_0 a2_1 true _ A4.out).mono ?_);rintro e w15 ⟨rfl,hb⟩;refine ⟨_,rfl,?_⟩;have n0_:=Aside0.mk (blk_below (g:=gb266) (o:=.cells #[.int .i64 a1_0,.string a1_1] 45 (0,0)) (by (with_reducible repeat (first|refine blk_drewN ?_ _|refine blk_drew ?_|refine blk_alloc ?_ _));exact BK266.out) hb);have n1_:=Aside0.mk (blk_below (g:=gb267) (o:=.cells #[.int .i64 a2_0,.string a2_1] 45 (0,0)) (by (with_reducible repeat (first|refine blk_drewN ?_ _|refine blk_drew ?_|refine blk_alloc ?_ _));exact BK267.out) hb);have n2_:=Aside0.mk (blk_below (g:=gb268) (o:=.cells #[.int .i64 0,.string (⟨#[]⟩ : ByteArray)] 45 (0,0)) (by (with_reducible repeat (first|refine blk_drewN ?_ _|refine blk_drew ?_|refine blk_alloc ?_ _));exact BK268.out) hb);have n3_:=Aside0.mk (below_step (by repeat (first|(with_reducible first|exact HB.out|apply below_alloc|apply pw_below_drewN|apply below_drew1|refine below_set ?_ GE266.out|refine below_set ?_ GE267.out|refine below_set ?_ GE268.out)|exact HB.out)) hb);clear BK266;clear BK267;clear BK268;clear HB;have BK266:=n0_;have BK267:=n1_;have BK268:=n2_;have HB:=n3_;clear n0_ n1_ n2_ n3_;(try clear hb);(try clear hb2);(try clear hk);(try clear hi);have hcz16_0 : w15.cell? ⟨gb267,0,none⟩=some (.int .i64 a2_0):=(blk_cell BK267.out 0).trans rfl;have hcz16_1 : w15.cell? ⟨gb267,1,none⟩=some (.string a2_1):=(blk_cell BK267.out 1).trans rfl;have hfz16_0:=blk_frozen BK267.out 0;have hfz16_1:=blk_frozen BK267.out 1;have hcz17_0 : w15.cell? ⟨gb268,0,none⟩=some (.int .i64 0):=(blk_cell BK268.out 0).trans rfl;have hcz17_1 : w15.cell? ⟨gb268,1,none⟩=some (.string (⟨#[]⟩ : ByteArray)):=(blk_cell BK268.out 1).trans rfl;have hfz17_0:=blk_frozen BK268.out 0;have hfz17_1:=blk_frozen BK268.out 1))
   refine bodyPost_ret (results_cell_row rfl _ _ gb268 45 #[.int .i64 a2_0,.string a2_1] (0,0) _ rfl (by (with_reducible repeat (first|refine blk_drewN ?_ _|refine blk_drew ?_|refine blk_alloc ?_ _));refine blk_put (cs:=#[.int .i64 a2_0,.string (⟨#[]⟩ : ByteArray)]) ?_ 1 _ rfl;(with_reducible repeat (first|refine blk_drewN ?_ _|refine blk_drew ?_|refine blk_alloc ?_ _));refine blk_put (cs:=#[.int .i64 0,.string (⟨#[]⟩ : ByteArray)]) ?_ 0 _ rfl;(with_reducible repeat (first|refine blk_drewN ?_ _|refine blk_drew ?_|refine blk_alloc ?_ _));exact BK268.out) Try.underlying45 rfl (by kernel_rfl)) rfl ?_
   exact ⟨by first|rfl|(simp [errW_none,errW_some] <;> rfl)|(simp [*,errW_none,errW_some] <;> rfl),by repeat (first|(with_reducible first|exact HB.out|apply below_alloc|apply pw_below_drewN|apply below_drew1|refine below_set ?_ GE266.out|refine below_set ?_ GE267.out|refine below_set ?_ GE268.out)|exact HB.out)⟩
  ·rw [if_neg c6] at H
   have c6b0 : (a0 == 3)=false:=beq_eq_false_iff_ne.mpr c6
   have c6b1 : (a0 != 3)=true:=bne_iff_ne.mpr c6
   simp only [Option.some.injEq,Prod.mk.injEq] at H
   obtain ⟨rfl,rfl⟩:=H
   go_enter Try.func25,Try.ntmps25
   go_wp2_with (first|((with_reducible refine gate_dst (N:=4) rfl ?_);refine box_event ?hg (N:=4) ?hd (cs:=#[.int .i64 a1_0,.string a1_1]) (t:=45) ?hr ?_;(case hd=>rfl);(case hg=>rfl);(case hr=>first|(go_simp;done)|(go_simp;rfl));intro gb266 hg w18 hbox hb;have n0_:=Aside0.mk (below_step (by repeat (first|(with_reducible first|exact HB.out|apply below_alloc|apply pw_below_drewN|apply below_drew1)|exact HB.out)) hb);have n1_:=Aside0.mk (hbox);have n2_:=Aside0.mk ((by rw [hg];exact (below_size (by repeat (first|(with_reducible first|exact HB.out|apply below_alloc|apply pw_below_drewN|apply below_drew1)|exact HB.out))) : w.heap.size≤gb266));have n3_:=Aside0.mk ((by rw [hg];exact (below_size (by repeat (first|(with_reducible first|exact HB.out|apply below_alloc|apply pw_below_drewN|apply below_drew1)|exact HB.out))) : w.heap.size≤gb266));clear HB;have HB:=n0_;have BK266:=n1_;have GW266:=n2_;have GE266:=n3_;clear n0_ n1_ n2_ n3_;clear hb hbox hg)|((with_reducible refine gate_dst (N:=5) rfl ?_);refine box_event ?hg (N:=5) ?hd (cs:=#[.int .i64 a2_0,.string a2_1]) (t:=45) ?hr ?_;(case hd=>rfl);(case hg=>rfl);(case hr=>first|(go_simp;done)|(go_simp;rfl));intro gb267 hg w19 hbox hb;have n0_:=Aside0.mk (blk_below (g:=gb266) (o:=.cells #[.int .i64 a1_0,.string a1_1] 45 (0,0)) (by (with_reducible repeat (first|refine blk_drewN ?_ _|refine blk_drew ?_|refine blk_alloc ?_ _));exact BK266.out) hb);have n1_:=Aside0.mk (below_step (by repeat (first|(with_reducible first|exact HB.out|apply below_alloc|apply pw_below_drewN|apply below_drew1|refine below_set ?_ GE266.out)|exact HB.out)) hb);have n2_:=Aside0.mk (hbox);have n3_:=Aside0.mk ((by rw [hg];exact (below_size (by repeat (first|(with_reducible first|exact HB.out|apply below_alloc|apply pw_below_drewN|apply below_drew1|refine below_set ?_ GE266.out)|exact HB.out))) : w.heap.size≤gb267));have n4_:=Aside0.mk ((by rw [hg];exact (below_size (by repeat (first|(with_reducible first|exact HB.out|apply below_alloc|apply pw_below_drewN|apply below_drew1|refine below_set ?_ GE266.out)|exact HB.out))) : w.heap.size≤gb267));have n5_:=Aside0.mk ((by rw [hg];exact Nat.ne_of_lt (blk_lt (g:=gb266) (o:=.cells #[.int .i64 a1_0,.string a1_1] 45 (0,0)) (by (with_reducible repeat (first|refine blk_drewN ?_ _|refine blk_drew ?_|refine blk_alloc ?_ _));exact BK266.out)) : gb266≠gb267));have n6_:=Aside0.mk ((by rw [hg];exact Nat.ne_of_gt (blk_lt (g:=gb266) (o:=.cells #[.int .i64 a1_0,.string a1_1] 45 (0,0)) (by (with_reducible repeat (first|refine blk_drewN ?_ _|refine blk_drew ?_|refine blk_alloc ?_ _));exact BK266.out)) : gb267≠gb266));clear BK266;clear HB;have BK266:=n0_;have HB:=n1_;have BK267:=n2_;have GW267:=n3_;have GE267:=n4_;have NB266_267:=n5_;have NB267_266:=n6_;clear n0_ n1_ n2_ n3_ n4_ n5_ n6_;clear hb hbox hg)|((with_reducible refine gate_dst (N:=6) rfl ?_);refine box_event ?hg (N:=6) ?hd (cs:=#[.int .i64 0,.string (⟨#[]⟩ : ByteArray)]) (t:=45) ?hr ?_;(case hd=>rfl);(case hg=>rfl);(case hr=>first|(go_simp;done)|(go_simp;rfl));intro gb268 hg w20 hbox hb;have n0_:=Aside0.mk (blk_below (g:=gb266) (o:=.cells #[.int .i64 a1_0,.string a1_1] 45 (0,0)) (by (with_reducible repeat (first|refine blk_drewN ?_ _|refine blk_drew ?_|refine blk_alloc ?_ _));exact BK266.out) hb);have n1_:=Aside0.mk (blk_below (g:=gb267) (o:=.cells #[.int .i64 a2_0,.string a2_1] 45 (0,0)) (by (with_reducible repeat (first|refine blk_drewN ?_ _|refine blk_drew ?_|refine blk_alloc ?_ _));exact BK267.out) hb);have n2_:=Aside0.mk (below_step (by repeat (first|(with_reducible first|exact HB.out|apply below_alloc|apply pw_below_drewN|apply below_drew1|refine below_set ?_ GE266.out|refine below_set ?_ GE267.out)|exact HB.out)) hb);have n3_:=Aside0.mk (hbox);have n4_:=Aside0.mk ((by rw [hg];exact (below_size (by repeat (first|(with_reducible first|exact HB.out|apply below_alloc|apply pw_below_drewN|apply below_drew1|refine below_set ?_ GE266.out|refine below_set ?_ GE267.out)|exact HB.out))) : w.heap.size≤gb268));have n5_:=Aside0.mk ((by rw [hg];exact (below_size (by repeat (first|(with_reducible first|exact HB.out|apply below_alloc|apply pw_below_drewN|apply below_drew1|refine below_set ?_ GE266.out|refine below_set ?_ GE267.out)|exact HB.out))) : w.heap.size≤gb268));have n6_:=Aside0.mk ((by rw [hg];exact Nat.ne_of_lt (blk_lt (g:=gb266) (o:=.cells #[.int .i64 a1_0,.string a1_1] 45 (0,0)) (by (with_reducible repeat (first|refine blk_drewN ?_ _|refine blk_drew ?_|refine blk_alloc ?_ _));exact BK266.out)) : gb266≠gb268));have n7_:=Aside0.mk ((by rw [hg];exact Nat.ne_of_gt (blk_lt (g:=gb266) (o:=.cells #[.int .i64 a1_0,.string a1_1] 45 (0,0)) (by (with_reducible repeat (first|refine blk_drewN ?_ _|refine blk_drew ?_|refine blk_alloc ?_ _));exact BK266.out)) : gb268≠gb266));have n8_:=Aside0.mk ((by rw [hg];exact Nat.ne_of_lt (blk_lt (g:=gb267) (o:=.cells #[.int .i64 a2_0,.string a2_1] 45 (0,0)) (by (with_reducible repeat (first|refine blk_drewN ?_ _|refine blk_drew ?_|refine blk_alloc ?_ _));exact BK267.out)) : gb267≠gb268));have n9_:=Aside0.mk ((by rw [hg];exact Nat.ne_of_gt (blk_lt (g:=gb267) (o:=.cells #[.int .i64 a2_0,.string a2_1] 45 (0,0)) (by (with_reducible repeat (first|refine blk_drewN ?_ _|refine blk_drew ?_|refine blk_alloc ?_ _));exact BK267.out)) : gb268≠gb267));clear BK266;clear BK267;clear HB;have BK266:=n0_;have BK267:=n1_;have HB:=n2_;have BK268:=n3_;have GW268:=n4_;have GE268:=n5_;have NB266_268:=n6_;have NB268_266:=n7_;have NB267_268:=n8_;have NB268_267:=n9_;clear n0_ n1_ n2_ n3_ n4_ n5_ n6_ n7_ n8_ n9_;clear hb hbox hg;have hnb21:=NB266_267.out;have hnc21:=NB267_266.out;have hnb22:=NB266_268.out;have hnc22:=NB268_266.out;have hcz23_0 : w20.cell? ⟨gb266,0,none⟩=some (.int .i64 a1_0):=(blk_cell BK266.out 0).trans rfl;have hcz23_1 : w20.cell? ⟨gb266,1,none⟩=some (.string a1_1):=(blk_cell BK266.out 1).trans rfl;have hfz23_0:=blk_frozen BK266.out 0;have hfz23_1:=blk_frozen BK266.out 1;have hnb24:=NB267_268.out;have hnc24:=NB268_267.out;have hcz25_0 : w20.cell? ⟨gb267,0,none⟩=some (.int .i64 a2_0):=(blk_cell BK267.out 0).trans rfl;have hcz25_1 : w20.cell? ⟨gb267,1,none⟩=some (.string a2_1):=(blk_cell BK267.out 1).trans rfl;have hfz25_0:=blk_frozen BK267.out 0;have hfz25_1:=blk_frozen BK267.out 1)|((with_reducible refine gate_callee (f:=27) rfl ?_);refine goesL_ (some 11) rfl rfl Try.func27 (by kernel_rfl) rfl #[.int .i64 a0,.agg #[.int .i64 a1_0,.string a1_1],.agg #[.int .i64 a2_0,.string a2_1]] rfl (by (try simp only [List.map_toArray,List.map_cons,List.map_nil]);first|done|rfl|(simp only [List.length_drop,List.length_take];rfl)) ?_;(with_reducible refine (thresherref03_both.calls k a0 a1_0 a1_1 a2_0 a2_1 true _ A4.out).mono ?_);rintro e w26 ⟨rfl,hb⟩;refine ⟨_,rfl,?_⟩;have n0_:=Aside0.mk (blk_below (g:=gb266) (o:=.cells #[.int .i64 a1_0,.string a1_1] 45 (0,0)) (by (with_reducible repeat (first|refine blk_drewN ?_ _|refine blk_drew ?_|refine blk_alloc ?_ _));exact BK266.out) hb);have n1_:=Aside0.mk (blk_below (g:=gb267) (o:=.cells #[.int .i64 a2_0,.string a2_1] 45 (0,0)) (by (with_reducible repeat (first|refine blk_drewN ?_ _|refine blk_drew ?_|refine blk_alloc ?_ _));exact BK267.out) hb);have n2_:=Aside0.mk (blk_below (g:=gb268) (o:=.cells #[.int .i64 0,.string (⟨#[]⟩ : ByteArray)] 45 (0,0)) (by (with_reducible repeat (first|refine blk_drewN ?_ _|refine blk_drew ?_|refine blk_alloc ?_ _));exact BK268.out) hb);have n3_:=Aside0.mk (below_step (by repeat (first|(with_reducible first|exact HB.out|apply below_alloc|apply pw_below_drewN|apply below_drew1|refine below_set ?_ GE266.out|refine below_set ?_ GE267.out|refine below_set ?_ GE268.out)|exact HB.out)) hb);clear BK266;clear BK267;clear BK268;clear HB;have BK266:=n0_;have BK267:=n1_;have BK268:=n2_;have HB:=n3_;clear n0_ n1_ n2_ n3_;(try clear hb);(try clear hb2);(try clear hk);(try clear hi);have hcz27_0 : w26.cell? ⟨gb266,0,none⟩=some (.int .i64 a1_0):=(blk_cell BK266.out 0).trans rfl;have hcz27_1 : w26.cell? ⟨gb266,1,none⟩=some (.string a1_1):=(blk_cell BK266.out 1).trans rfl;have hfz27_0:=blk_frozen BK266.out 0;have hfz27_1:=blk_frozen BK266.out 1;have hcz28_0 : w26.cell? ⟨gb267,0,none⟩=some (.int .i64 a2_0):=(blk_cell BK267.out 0).trans rfl;have hcz28_1 : w26.cell? ⟨gb267,1,none⟩=some (.string a2_1):=(blk_cell BK267.out 1).trans rfl;have hfz28_0:=blk_frozen BK267.out 0;have hfz28_1:=blk_frozen BK267.out 1;have hcz29_0 : w26.cell? ⟨gb268,0,none⟩=some (.int .i64 0):=(blk_cell BK268.out 0).trans rfl;have hcz29_1 : w26.cell? ⟨gb268,1,none⟩=some (.string (⟨#[]⟩ : ByteArray)):=(blk_cell BK268.out 1).trans rfl;have hfz29_0:=blk_frozen BK268.out 0;have hfz29_1:=blk_frozen BK268.out 1))
   refine bodyPost_ret (results_cell_row rfl _ _ gb268 45 #[.int .i64 (wrap64 (a1_0 + a2_0)),.string (⟨#[]⟩ : ByteArray)] (0,0) _ rfl (by (with_reducible repeat (first|refine blk_drewN ?_ _|refine blk_drew ?_|refine blk_alloc ?_ _));refine blk_put (cs:=#[.int .i64 (wrap64 (a1_0 + a2_0)),.string (⟨#[]⟩ : ByteArray)]) ?_ 1 _ rfl;(with_reducible repeat (first|refine blk_drewN ?_ _|refine blk_drew ?_|refine blk_alloc ?_ _));refine blk_put (cs:=#[.int .i64 0,.string (⟨#[]⟩ : ByteArray)]) ?_ 0 _ rfl;(with_reducible repeat (first|refine blk_drewN ?_ _|refine blk_drew ?_|refine blk_alloc ?_ _));exact BK268.out) Try.underlying45 rfl (by kernel_rfl)) rfl ?_
   exact ⟨by first|rfl|(simp [errW_none,errW_some] <;> rfl)|(simp [*,errW_none,errW_some] <;> rfl),by repeat (first|(with_reducible first|exact HB.out|apply below_alloc|apply pw_below_drewN|apply below_drew1|refine below_set ?_ GE266.out|refine below_set ?_ GE267.out|refine below_set ?_ GE268.out)|exact HB.out)⟩
 ·replace c5:=Bool.eq_false_iff.mpr c5
  subst c5
  have H1 : (some (0,(⟨#[]⟩ : ByteArray)))=some (r1,r2):=by rw [if_neg (show ¬ (false=true) by decide)] at H;exact H
  clear H
  have H:=H1
  clear H1
  simp only [Option.some.injEq,Prod.mk.injEq] at H
  obtain ⟨rfl,rfl⟩:=H
  go_enter Try.func25,Try.ntmps25
  go_wp2_with (first|((with_reducible refine gate_dst (N:=4) rfl ?_);refine box_event ?hg (N:=4) ?hd (cs:=#[.int .i64 a1_0,.string a1_1]) (t:=45) ?hr ?_;(case hd=>rfl);(case hg=>rfl);(case hr=>first|(go_simp;done)|(go_simp;rfl));intro gb266 hg w30 hbox hb;have n0_:=Aside0.mk (below_step (by repeat (first|(with_reducible first|exact HB.out|apply below_alloc|apply pw_below_drewN|apply below_drew1)|exact HB.out)) hb);have n1_:=Aside0.mk (hbox);have n2_:=Aside0.mk ((by rw [hg];exact (below_size (by repeat (first|(with_reducible first|exact HB.out|apply below_alloc|apply pw_below_drewN|apply below_drew1)|exact HB.out))) : w.heap.size≤gb266));have n3_:=Aside0.mk ((by rw [hg];exact (below_size (by repeat (first|(with_reducible first|exact HB.out|apply below_alloc|apply pw_below_drewN|apply below_drew1)|exact HB.out))) : w.heap.size≤gb266));clear HB;have HB:=n0_;have BK266:=n1_;have GW266:=n2_;have GE266:=n3_;clear n0_ n1_ n2_ n3_;clear hb hbox hg)|((with_reducible refine gate_dst (N:=5) rfl ?_);refine box_event ?hg (N:=5) ?hd (cs:=#[.int .i64 a2_0,.string a2_1]) (t:=45) ?hr ?_;(case hd=>rfl);(case hg=>rfl);(case hr=>first|(go_simp;done)|(go_simp;rfl));intro gb267 hg w31 hbox hb;have n0_:=Aside0.mk (blk_below (g:=gb266) (o:=.cells #[.int .i64 a1_0,.string a1_1] 45 (0,0)) (by (with_reducible repeat (first|refine blk_drewN ?_ _|refine blk_drew ?_|refine blk_alloc ?_ _));exact BK266.out) hb);have n1_:=Aside0.mk (below_step (by repeat (first|(with_reducible first|exact HB.out|apply below_alloc|apply pw_below_drewN|apply below_drew1|refine below_set ?_ GE266.out)|exact HB.out)) hb);have n2_:=Aside0.mk (hbox);have n3_:=Aside0.mk ((by rw [hg];exact (below_size (by repeat (first|(with_reducible first|exact HB.out|apply below_alloc|apply pw_below_drewN|apply below_drew1|refine below_set ?_ GE266.out)|exact HB.out))) : w.heap.size≤gb267));have n4_:=Aside0.mk ((by rw [hg];exact (below_size (by repeat (first|(with_reducible first|exact HB.out|apply below_alloc|apply pw_below_drewN|apply below_drew1|refine below_set ?_ GE266.out)|exact HB.out))) : w.heap.size≤gb267));have n5_:=Aside0.mk ((by rw [hg];exact Nat.ne_of_lt (blk_lt (g:=gb266) (o:=.cells #[.int .i64 a1_0,.string a1_1] 45 (0,0)) (by (with_reducible repeat (first|refine blk_drewN ?_ _|refine blk_drew ?_|refine blk_alloc ?_ _));exact BK266.out)) : gb266≠gb267));have n6_:=Aside0.mk ((by rw [hg];exact Nat.ne_of_gt (blk_lt (g:=gb266) (o:=.cells #[.int .i64 a1_0,.string a1_1] 45 (0,0)) (by (with_reducible repeat (first|refine blk_drewN ?_ _|refine blk_drew ?_|refine blk_alloc ?_ _));exact BK266.out)) : gb267≠gb266));clear BK266;clear HB;have BK266:=n0_;have HB:=n1_;have BK267:=n2_;have GW267:=n3_;have GE267:=n4_;have NB266_267:=n5_;have NB267_266:=n6_;clear n0_ n1_ n2_ n3_ n4_ n5_ n6_;clear hb hbox hg)|((with_reducible refine gate_dst (N:=6) rfl ?_);refine box_event ?hg (N:=6) ?hd (cs:=#[.int .i64 0,.string (⟨#[]⟩ : ByteArray)]) (t:=45) ?hr ?_;(case hd=>rfl);(case hg=>rfl);(case hr=>first|(go_simp;done)|(go_simp;rfl));intro gb268 hg w32 hbox hb;have n0_:=Aside0.mk (blk_below (g:=gb266) (o:=.cells #[.int .i64 a1_0,.string a1_1] 45 (0,0)) (by (with_reducible repeat (first|refine blk_drewN ?_ _|refine blk_drew ?_|refine blk_alloc ?_ _));exact BK266.out) hb);have n1_:=Aside0.mk (blk_below (g:=gb267) (o:=.cells #[.int .i64 a2_0,.string a2_1] 45 (0,0)) (by (with_reducible repeat (first|refine blk_drewN ?_ _|refine blk_drew ?_|refine blk_alloc ?_ _));exact BK267.out) hb);have n2_:=Aside0.mk (below_step (by repeat (first|(with_reducible first|exact HB.out|apply below_alloc|apply pw_below_drewN|apply below_drew1|refine below_set ?_ GE266.out|refine below_set ?_ GE267.out)|exact HB.out)) hb);have n3_:=Aside0.mk (hbox);have n4_:=Aside0.mk ((by rw [hg];exact (below_size (by repeat (first|(with_reducible first|exact HB.out|apply below_alloc|apply pw_below_drewN|apply below_drew1|refine below_set ?_ GE266.out|refine below_set ?_ GE267.out)|exact HB.out))) : w.heap.size≤gb268));have n5_:=Aside0.mk ((by rw [hg];exact (below_size (by repeat (first|(with_reducible first|exact HB.out|apply below_alloc|apply pw_below_drewN|apply below_drew1|refine below_set ?_ GE266.out|refine below_set ?_ GE267.out)|exact HB.out))) : w.heap.size≤gb268));have n6_:=Aside0.mk ((by rw [hg];exact Nat.ne_of_lt (blk_lt (g:=gb266) (o:=.cells #[.int .i64 a1_0,.string a1_1] 45 (0,0)) (by (with_reducible repeat (first|refine blk_drewN ?_ _|refine blk_drew ?_|refine blk_alloc ?_ _));exact BK266.out)) : gb266≠gb268));have n7_:=Aside0.mk ((by rw [hg];exact Nat.ne_of_gt (blk_lt (g:=gb266) (o:=.cells #[.int .i64 a1_0,.string a1_1] 45 (0,0)) (by (with_reducible repeat (first|refine blk_drewN ?_ _|refine blk_drew ?_|refine blk_alloc ?_ _));exact BK266.out)) : gb268≠gb266));have n8_:=Aside0.mk ((by rw [hg];exact Nat.ne_of_lt (blk_lt (g:=gb267) (o:=.cells #[.int .i64 a2_0,.string a2_1] 45 (0,0)) (by (with_reducible repeat (first|refine blk_drewN ?_ _|refine blk_drew ?_|refine blk_alloc ?_ _));exact BK267.out)) : gb267≠gb268));have n9_:=Aside0.mk ((by rw [hg];exact Nat.ne_of_gt (blk_lt (g:=gb267) (o:=.cells #[.int .i64 a2_0,.string a2_1] 45 (0,0)) (by (with_reducible repeat (first|refine blk_drewN ?_ _|refine blk_drew ?_|refine blk_alloc ?_ _));exact BK267.out)) : gb268≠gb267));clear BK266;clear BK267;clear HB;have BK266:=n0_;have BK267:=n1_;have HB:=n2_;have BK268:=n3_;have GW268:=n4_;have GE268:=n5_;have NB266_268:=n6_;have NB268_266:=n7_;have NB267_268:=n8_;have NB268_267:=n9_;clear n0_ n1_ n2_ n3_ n4_ n5_ n6_ n7_ n8_ n9_;clear hb hbox hg;have hnb33:=NB266_267.out;have hnc33:=NB267_266.out;have hnb34:=NB266_268.out;have hnc34:=NB268_266.out;have hcz35_0 : w32.cell? ⟨gb266,0,none⟩=some (.int .i64 a1_0):=(blk_cell BK266.out 0).trans rfl;have hcz35_1 : w32.cell? ⟨gb266,1,none⟩=some (.string a1_1):=(blk_cell BK266.out 1).trans rfl;have hfz35_0:=blk_frozen BK266.out 0;have hfz35_1:=blk_frozen BK266.out 1;have hnb36:=NB267_268.out;have hnc36:=NB268_267.out;have hcz37_0 : w32.cell? ⟨gb267,0,none⟩=some (.int .i64 a2_0):=(blk_cell BK267.out 0).trans rfl;have hcz37_1 : w32.cell? ⟨gb267,1,none⟩=some (.string a2_1):=(blk_cell BK267.out 1).trans rfl;have hfz37_0:=blk_frozen BK267.out 0;have hfz37_1:=blk_frozen BK267.out 1)|((with_reducible refine gate_callee (f:=27) rfl ?_);refine goesL_ (some 11) rfl rfl Try.func27 (by kernel_rfl) rfl #[.int .i64 a0,.agg #[.int .i64 a1_0,.string a1_1],.agg #[.int .i64 a2_0,.string a2_1]] rfl (by (try simp only [List.map_toArray,List.map_cons,List.map_nil]);first|done|rfl|(simp only [List.length_drop,List.length_take];rfl)) ?_;(with_reducible refine (thresherref03_both.calls k a0 a1_0 a1_1 a2_0 a2_1 false _ A4.out).mono ?_);rintro e w38 ⟨rfl,hb⟩;refine ⟨_,rfl,?_⟩;have n0_:=Aside0.mk (blk_below (g:=gb266) (o:=.cells #[.int .i64 a1_0,.string a1_1] 45 (0,0)) (by (with_reducible repeat (first|refine blk_drewN ?_ _|refine blk_drew ?_|refine blk_alloc ?_ _));exact BK266.out) hb);have n1_:=Aside0.mk (blk_below (g:=gb267) (o:=.cells #[.int .i64 a2_0,.string a2_1] 45 (0,0)) (by (with_reducible repeat (first|refine blk_drewN ?_ _|refine blk_drew ?_|refine blk_alloc ?_ _));exact BK267.out) hb);have n2_:=Aside0.mk (blk_below (g:=gb268) (o:=.cells #[.int .i64 0,.string (⟨#[]⟩ : ByteArray)] 45 (0,0)) (by (with_reducible repeat (first|refine blk_drewN ?_ _|refine blk_drew ?_|refine blk_alloc ?_ _));exact BK268.out) hb);have n3_:=Aside0.mk (below_step (by repeat (first|(with_reducible first|exact HB.out|apply below_alloc|apply pw_below_drewN|apply below_drew1|refine below_set ?_ GE266.out|refine below_set ?_ GE267.out|refine below_set ?_ GE268.out)|exact HB.out)) hb);clear BK266;clear BK267;clear BK268;clear HB;have BK266:=n0_;have BK267:=n1_;have BK268:=n2_;have HB:=n3_;clear n0_ n1_ n2_ n3_;(try clear hb);(try clear hb2);(try clear hk);(try clear hi);have hcz39_0 : w38.cell? ⟨gb268,0,none⟩=some (.int .i64 0):=(blk_cell BK268.out 0).trans rfl;have hcz39_1 : w38.cell? ⟨gb268,1,none⟩=some (.string (⟨#[]⟩ : ByteArray)):=(blk_cell BK268.out 1).trans rfl;have hfz39_0:=blk_frozen BK268.out 0;have hfz39_1:=blk_frozen BK268.out 1))
  refine bodyPost_ret (results_cell_row rfl _ _ gb268 45 #[.int .i64 0,.string (⟨#[]⟩ : ByteArray)] (0,0) _ rfl (by (with_reducible repeat (first|refine blk_drewN ?_ _|refine blk_drew ?_|refine blk_alloc ?_ _));refine blk_put (cs:=#[.int .i64 0,.string (⟨#[]⟩ : ByteArray)]) ?_ 1 _ rfl;(with_reducible repeat (first|refine blk_drewN ?_ _|refine blk_drew ?_|refine blk_alloc ?_ _));refine blk_put (cs:=#[.int .i64 0,.string (⟨#[]⟩ : ByteArray)]) ?_ 0 _ rfl;(with_reducible repeat (first|refine blk_drewN ?_ _|refine blk_drew ?_|refine blk_alloc ?_ _));exact BK268.out) Try.underlying45 rfl (by kernel_rfl)) rfl ?_
  exact ⟨by first|rfl|(simp [errW_none,errW_some] <;> rfl)|(simp [*,errW_none,errW_some] <;> rfl),by repeat (first|(with_reducible first|exact HB.out|apply below_alloc|apply pw_below_drewN|apply below_drew1|refine below_set ?_ GE266.out|refine below_set ?_ GE267.out|refine below_set ?_ GE268.out)|exact HB.out)⟩
def thresherref13_One.l0 : Nat→List (S45)→List (S45)→List (S45)→Int→List Int→Int→Int→Int→Option ((List (S45)))
 | 0,_,_,_,_,_,_,_,_=>none
 | k + 1,x1,x2,x7,x8,x271000,x271001,x271002,x271003=>if x8 < (x7.length : Int) then (if x271002=3 then (if 0≤x8 then (if x8 < (x271000.length : Int) then (if x8 < (x1.length : Int) then (if x8 < (x2.length : Int) then ((thresherref03_Add.f k (rd x271000 x8) ((rd_T45 x1 x8).f0) ((rd_T45 x1 x8).f1) ((rd_T45 x2 x8).f0) ((rd_T45 x2 x8).f1)).bind fun bt280=>(thresherref13_One.l0 k x1 x2 (x7.set (x8 : Int).toNat (⟨bt280.1,bt280.2⟩ : S45)) (wrap64 (x8 + 1)) x271000 x271001 x271002 x271003)) else (none)) else (none)) else (none)) else (none)) else (some x7)) else (some x7)
def thresherref13_One.f (k : Nat) (l0_0 : List Int) (a0_1 : Int) (a0_2 : Int) (a0_3 : Int) (l1 : List (S45)) (l2 : List (S45)) : Option ((List (S45))):=(some (([] : List (S45)) : List (S45))).bind fun y271=>(if y271.length + l2.length < 5864062014805 then (thresherref13_One.l0 k l1 l2 (y271 ++ l2) a0_1 l0_0 a0_1 a0_2 a0_3) else (none))
theorem thresherref13_One.mono_l : ∀ k,(∀ y0 y1 y2 y3 y4 y5 y6 y7,LeO (thresherref13_One.l0 k y0 y1 y2 y3 y4 y5 y6 y7) (thresherref13_One.l0 (k + 1) y0 y1 y2 y3 y4 y5 y6 y7))
 | 0=>fun _ _ _ _ _ _ _ _ r h=>by simp [thresherref13_One.l0] at h
 | k + 1=>by
  have ih0:=thresherref13_One.mono_l k
  ·intro y0 y1 y2 y3 y4 y5 y6 y7
   unfold thresherref13_One.l0
   repeat' first
   | (with_reducible exact ih0 _ _ _ _ _ _ _ _)
   | (with_reducible exact thresherref03_Add.mono _ _ _ _ _ _)
   | (with_reducible exact LeO.refl _)
   | (with_reducible exact LeO.none _)
   | (with_reducible refine LeO.ite ?_ ?_)
   | (with_reducible refine LeO.bind ?_ (fun _=>?_))
   | exact ih0 _ _ _ _ _ _ _ _
   | exact thresherref03_Add.mono _ _ _ _ _ _
   | exact LeO.none _
   | refine LeO.ite ?_ ?_
   | refine LeO.bind ?_ (fun _=>?_)
theorem thresherref13_One.mono : ∀ a0 a1 a2 a3 a4 a5 k,LeO (thresherref13_One.f k a0 a1 a2 a3 a4 a5) (thresherref13_One.f (k + 1) a0 a1 a2 a3 a4 a5):=by
 intro a0 a1 a2 a3 a4 a5 k
 have ih0:=thresherref13_One.mono_l k
 unfold thresherref13_One.f
 repeat' first
   | (with_reducible exact ih0 _ _ _ _ _ _ _ _)
   | (with_reducible exact thresherref03_Add.mono _ _ _ _ _ _)
   | (with_reducible exact LeO.refl _)
   | (with_reducible exact LeO.none _)
   | (with_reducible refine LeO.ite ?_ ?_)
   | (with_reducible refine LeO.bind ?_ (fun _=>?_))
   | exact ih0 _ _ _ _ _ _ _ _
   | exact thresherref03_Add.mono _ _ _ _ _ _
   | exact LeO.none _
   | refine LeO.ite ?_ ?_
   | refine LeO.bind ?_ (fun _=>?_)
def thresherref13_One.T5 : Bool × List (List Nat × List Nat):=(true,[([],[]),([],[]),([],[]),([2],[2]),([],[]),([3,4],[3,4]),([5],[5]),([],[]),([],[]),([7,8],[7,8]),([9],[9]),([],[]),([],[]),([11,12],[11,12]),([13],[13]),([6,10,14],[6,10,14]),([0,1,0,1,2,3,4,5,6,7,8,9,10,11,12,13,14,15],[0,1]),([16,15,15,0,1,2,3,4,5,6,7,8,9,10,11,12,13,14,15],[15,16])])
def thresherref13_One.B5 : List Nat:=[0,0,0,4,0,28,60,0,0,384,896,0,0,6144,14336,32764,65535,131071]
theorem thresherref13_One.tab5 : rtab .any (opsOf Try.f18 5)=thresherref13_One.T5:=by kernel_rfl
theorem thresherref13_One.bits5 : waitsOk thresherref13_One.T5.2 thresherref13_One.B5=true:=by kernel_rfl
set_option maxHeartbeats 8000000 in
set_option maxRecDepth 100000 in
theorem thresherref13_One.calls (k : Nat) (A0_0 : Option Addr) (c0_0 : Nat) (l0_0 : List Int) (a0_1 : Int) (a0_2 : Int) (a0_3 : Int) (A1 : Option Addr) (c1 : Nat) (l1 : List (S45)) (A2 : Option Addr) (c2 : Nat) (l2 : List (S45)) (r : List (S45)) (w : World) (hr0_0 : Kd.C (Kd.int .i64) w A0_0 l0_0.length l0_0) (hc0_0 : l0_0.length≤c0_0) (hr1 : Kd.C k45 w A1 l1.length l1) (hc1 : l1.length≤c1) (hr2 : Kd.C k45 w A2 l2.length l2) (hc2 : l2.length≤c2) (h : thresherref13_One.f k l0_0 a0_1 a0_2 a0_3 l1 l2=some r) :
  Calls Try.prog 18 #[.agg #[.slice A0_0 l0_0.length c0_0,.int .i64 a0_1,.int .i64 a0_2,.int .i64 a0_3],.slice A1 l1.length c1,.slice A2 l2.length c2] w fun e w'=>∃ v0_ : Value,e=.returned (v0_)∧Kd.R k45 45 w' w.heap.size (fun _=>True) v0_ r∧Below w.heap.size w w':=by
 have hu29:=Try.underlying29
 have hu45:=Try.underlying45
 have HR0_0:=Aside0.mk hr0_0
 have HC0_0:=Aside0.mk hc0_0
 clear hr0_0 hc0_0
 have HR1:=Aside0.mk hr1
 have HC1:=Aside0.mk hc1
 clear hr1 hc1
 have HR2:=Aside0.mk hr2
 have HC2:=Aside0.mk hc2
 clear hr2 hc2
 have HB:=Aside0.mk (Below.refl w.heap.size w)
 have H : ((some (([] : List (S45)) : List (S45))).bind fun y271=>(if y271.length + l2.length < 5864062014805 then (thresherref13_One.l0 k l1 l2 (y271 ++ l2) a0_1 l0_0 a0_1 a0_2 a0_3) else (none)))=some r:=h
 clear h
 obtain ⟨y271,hy271⟩ : ∃ y_ : List (S45),y_=(([] : List (S45))):=⟨_,rfl⟩
 replace H : (if y271.length + l2.length < 5864062014805 then (thresherref13_One.l0 k l1 l2 (y271 ++ l2) a0_1 l0_0 a0_1 a0_2 a0_3) else (none))=some r:=by first|(rw [hy271];with_reducible exact H)|(have H2_:=(Option.bind_some _ _).symm.trans H;rw [hy271];with_reducible exact H2_)|(have H2_:=(Option.bind_some _ _).symm.trans H;with_reducible exact H2_)|with_reducible exact H|(rw [hy271];exact H)|exact H
 have Ny271:=Aside0.mk hy271
 clear hy271
 by_cases c4 : y271.length + l2.length < 5864062014805
 ·rw [if_pos c4] at H
  have LMc4:=Aside0.mk c4
  clear c4
  obtain ⟨y274,hy274⟩ : ∃ y_ : List (S45),y_=(y271 ++ l2):=⟨_,rfl⟩
  replace H : (thresherref13_One.l0 k l1 l2 y274 a0_1 l0_0 a0_1 a0_2 a0_3)=some r:=by first|(rw [hy274];with_reducible exact H)|(have H2_:=(Option.bind_some _ _).symm.trans H;rw [hy274];with_reducible exact H2_)|(have H2_:=(Option.bind_some _ _).symm.trans H;with_reducible exact H2_)|with_reducible exact H|(rw [hy274];exact H)|exact H
  have Ny274:=Aside0.mk hy274
  clear hy274
  have H':=Aside0.mk H
  clear H
  go_enter Try.func18,Try.ntmps18
  go_wp2_with (first|((with_reducible refine gate_dst (N:=3) rfl ?_);refine box_event ?hg (N:=3) ?hd (cs:=#[.slice A0_0 l0_0.length c0_0,.int .i64 a0_1,.int .i64 a0_2,.int .i64 a0_3]) (t:=29) ?hr ?_;(case hd=>rfl);(case hg=>rfl);(case hr=>first|(go_simp;done)|(go_simp;rfl));intro gb270 hg w5 hbox hb;have n0_:=Aside0.mk (below_step (by repeat (first|(with_reducible first|exact HB.out|apply below_alloc|apply pw_below_drewN|apply below_drew1)|exact HB.out)) hb);have n1_:=Aside0.mk (hbox);have n2_:=Aside0.mk ((by rw [hg];exact (below_size (by repeat (first|(with_reducible first|exact HB.out|apply below_alloc|apply pw_below_drewN|apply below_drew1)|exact HB.out))) : w.heap.size≤gb270));have n3_:=Aside0.mk ((by rw [hg];exact (below_size (by repeat (first|(with_reducible first|exact HB.out|apply below_alloc|apply pw_below_drewN|apply below_drew1)|exact HB.out))) : w.heap.size≤gb270));clear HB;have HB:=n0_;have BK270:=n1_;have GW270:=n2_;have GE270:=n3_;clear n0_ n1_ n2_ n3_;clear hb hbox hg)|((with_reducible refine gate_dst (N:=9) rfl ?_);refine Kd.R_lit k45 _ 45 ?hg (N:=9) ?hd (xs:=([] : List (S45))) (inner:=[]) (ok:=fun _=>True) (okp:=fun _=>True) ?hr ?hp (fun _ hk=>hk) trivial (Below.refl _ _) (Nat.le_refl _) (by simp) ?_;(case hd=>rfl);(case hg=>rfl);(case hr=>first|(go_simp;done)|(go_simp;rfl));(case hp=>exact (Reps.none _ _));intro v272 w6 ho7 hb hg_ hnew_;clear hg_ hnew_;(first|rw [← Ny271.out] at ho7|(simp only [Int.reduceToNat] at ho7;rw [← Ny271.out] at ho7));have n0_:=Aside0.mk (Kd.R_lower ho7 (below_size (by repeat (first|(with_reducible first|exact HB.out|apply below_alloc|apply pw_below_drewN|apply below_drew1|refine below_set ?_ GE270.out)|exact HB.out))));have n1_:=Aside0.mk (blk_below (g:=gb270) (o:=.cells #[.slice A0_0 l0_0.length c0_0,.int .i64 a0_1,.int .i64 a0_2,.int .i64 a0_3] 29 (0,0)) (by (with_reducible repeat (first|refine blk_drewN ?_ _|refine blk_drew ?_|refine blk_alloc ?_ _));exact BK270.out) hb);have n2_:=Aside0.mk (below_step (by repeat (first|(with_reducible first|exact HB.out|apply below_alloc|apply pw_below_drewN|apply below_drew1|refine below_set ?_ GE270.out)|exact HB.out)) hb);clear BK270;clear HB;have HO273:=n0_;have BK270:=n1_;have HB:=n2_;clear n0_ n1_ n2_;clear hb ho7)|((with_reducible refine gate_builtin (b:=.append) (xs:=#[.tmp 9,.tmp 10]) rfl ?_);at_builtin;refine Kd.R_append_rows k45 (w0:=w) w.heap.size rfl (.tmp 9) (.tmp 10) 36 45 (.agg #[(.int .i64 0),(.string ⟨#[]⟩)]) 24 rfl Try.underlying36 info45 rfl (by decide) (by omega) v272 y271 l2 _ _ _ (fun _=>True) (fun _=>False) rfl rfl ?aO ?aR (fun _ _ h=>h) (fun _ h=>h.elim) ?aF ?aB ?aS ?aL ?_;(case aR=>repeat (first|exact (Kd.C_below HR2.out HB.out)|(with_reducible refine Kd.C_alloc ?_ _)|(with_reducible refine Kd.C_drewN ?_ _)|(with_reducible refine Kd.C_drew ?_)));(case aB=>exact (by repeat (first|(with_reducible first|exact HB.out|apply below_alloc|apply pw_below_drewN|apply below_drew1|refine below_set ?_ GE270.out)|exact HB.out)));(case aF=>exact (fun _ _=>trivial));(case aO=>exact (by (with_reducible repeat (first|apply Kd.R_alloc|apply Kd.R_drewN|apply Kd.R_drew));exact HO273.out));(case aS=>exact (below_size (by repeat (first|(with_reducible first|exact HB.out|apply below_alloc|apply pw_below_drewN|apply below_drew1|refine below_set ?_ GE270.out)|exact HB.out))));(case aL=>have:=LMc4.out;omega);intro v275 w8 ho hb hg hat;rw [← Ny274.out] at ho;have n0_:=Aside0.mk (blk_grown (g:=gb270) (o:=.cells #[.slice A0_0 l0_0.length c0_0,.int .i64 a0_1,.int .i64 a0_2,.int .i64 a0_3] 29 (0,0)) (by (with_reducible repeat (first|refine blk_drewN ?_ _|refine blk_drew ?_|refine blk_alloc ?_ _));exact BK270.out) hg (Kd.R_ne HO273.out BK270.out (by decide)));have n1_:=Aside0.mk (hb);have n2_:=Aside0.mk (ho);clear BK270;clear HB;clear HO273;have BK270:=n0_;have HB:=n1_;have HO276:=n2_;clear n0_ n1_ n2_;clear ho hb hg hat;have hcz9_0 : w8.cell? ⟨gb270,0,none⟩=some (.slice A0_0 l0_0.length c0_0):=(blk_cell BK270.out 0).trans rfl;have hcz9_1 : w8.cell? ⟨gb270,1,none⟩=some (.int .i64 a0_1):=(blk_cell BK270.out 1).trans rfl;have hcz9_2 : w8.cell? ⟨gb270,2,none⟩=some (.int .i64 a0_2):=(blk_cell BK270.out 2).trans rfl;have hcz9_3 : w8.cell? ⟨gb270,3,none⟩=some (.int .i64 a0_3):=(blk_cell BK270.out 3).trans rfl;have hfz9_0:=blk_frozen BK270.out 0;have hfz9_1:=blk_frozen BK270.out 1;have hfz9_2:=blk_frozen BK270.out 2;have hfz9_3:=blk_frozen BK270.out 3))
  go_loopg [8] k (fun kq v8 w'=>∃ (x7_1 : List (S45)) (x8_1 : Int),v8=.int .i64 x8_1∧Aside0 (thresherref13_One.l0 kq l1 l2 x7_1 x8_1 l0_0 a0_1 a0_2 a0_3=some r)∧Aside0 (kq≤k)∧Aside0 (Kd.R k45 45 w' w.heap.size (fun _=>True) v275 x7_1)∧Aside0 (w'.heap[gb270]?=some (.cells #[(.slice A0_0 l0_0.length c0_0),.int .i64 a0_1,.int .i64 a0_2,.int .i64 a0_3] 29 (0,0)))∧Aside0 (Below w.heap.size w w'))
  case atStart=>exact ⟨(y274),(a0_1),(by first|rfl|(simp;done)|(simp [*];done)),H',⟨Nat.le_refl _⟩,⟨by (with_reducible repeat (first|apply Kd.R_alloc|apply Kd.R_drewN|apply Kd.R_drew));exact HO276.out⟩,⟨by (with_reducible repeat (first|refine blk_drewN ?_ _|refine blk_drew ?_|refine blk_alloc ?_ _));exact BK270.out⟩,⟨by repeat (first|(with_reducible first|exact HB.out|apply below_alloc|apply pw_below_drewN|apply below_drew1|refine below_set ?_ GE270.out)|exact HB.out)⟩⟩
  case round =>
   clear H'
   try clear c1
   try clear c2
   try clear p2
   try clear c4
   try clear hcz9_0
   try clear hcz9_1
   try clear hcz9_2
   try clear hcz9_3
   try clear hfz9_0
   try clear hfz9_1
   try clear hfz9_2
   try clear hfz9_3
   obtain ⟨x7_1,x8_1,rfl,HA,HK1,HO_7,BK270,HB⟩:=hrel
   cases gk with
   | zero=>exact absurd HA.out (by simp [thresherref13_One.l0])
   | succ k1 =>
    have H:=HA.out
    clear HA
    simp only [thresherref13_One.l0] at H
    by_cases c10 : x8_1 < (x7_1.length : Int)
    ·rw [if_pos c10] at H
     have c10b0 : decide (x8_1 < (x7_1.length : Int))=true:=decide_eq_true c10
     clear c10
     by_cases c11 : a0_2=3
     ·rw [if_pos c11] at H
      have c11b0 : (a0_2 == 3)=true:=beq_iff_eq.mpr c11
      have c11b1 : (a0_2 != 3)=false:=bne_eq_false_iff_eq.mpr c11
      clear c11
      by_cases c12 : 0≤x8_1
      ·rw [if_pos c12] at H
       have c12b0 : decide (0≤x8_1)=true:=decide_eq_true c12
       clear c12
       by_cases c13 : x8_1 < (l0_0.length : Int)
       ·rw [if_pos c13] at H
        have c13b0 : decide (x8_1 < (l0_0.length : Int))=true:=decide_eq_true c13
        clear c13
        by_cases c14 : x8_1 < (l1.length : Int)
        ·rw [if_pos c14] at H
         have c14b0 : decide (x8_1 < (l1.length : Int))=true:=decide_eq_true c14
         clear c14
         by_cases c15 : x8_1 < (l2.length : Int)
         ·rw [if_pos c15] at H
          have c15b0 : decide (x8_1 < (l2.length : Int))=true:=decide_eq_true c15
          clear c15
          replace H:=Option.bind_eq_some_iff.mp H
          obtain ⟨⟨t280,t281⟩,A160,H⟩:=H
          replace H : (thresherref13_One.l0 k1 l1 l2 (x7_1.set (x8_1 : Int).toNat (⟨t280,t281⟩ : S45)) (wrap64 (x8_1 + 1)) l0_0 a0_1 a0_2 a0_3)=some r:=H
          have A16:=Aside0.mk A160
          clear A160
          obtain ⟨y282,hy282⟩ : ∃ y_ : List (S45),y_=(x7_1.set (x8_1 : Int).toNat (⟨t280,t281⟩ : S45)):=⟨_,rfl⟩
          replace H : (thresherref13_One.l0 k1 l1 l2 y282 (wrap64 (x8_1 + 1)) l0_0 a0_1 a0_2 a0_3)=some r:=by first|(rw [hy282];with_reducible exact H)|(have H2_:=(Option.bind_some _ _).symm.trans H;rw [hy282];with_reducible exact H2_)|(have H2_:=(Option.bind_some _ _).symm.trans H;with_reducible exact H2_)|with_reducible exact H|(rw [hy282];exact H)|exact H
          have Ny282:=Aside0.mk hy282
          clear hy282
          have H':=Aside0.mk H
          clear H
          obtain ⟨Ao18,co18,eo18⟩:=Kd.R_slice HO_7.out
          subst eo18
          have hcz19_0 : wr.cell? ⟨gb270,0,none⟩=some (.slice A0_0 l0_0.length c0_0):=(blk_cell BK270.out 0).trans rfl
          have hcz19_1 : wr.cell? ⟨gb270,1,none⟩=some (.int .i64 a0_1):=(blk_cell BK270.out 1).trans rfl
          have hcz19_2 : wr.cell? ⟨gb270,2,none⟩=some (.int .i64 a0_2):=(blk_cell BK270.out 2).trans rfl
          have hcz19_3 : wr.cell? ⟨gb270,3,none⟩=some (.int .i64 a0_3):=(blk_cell BK270.out 3).trans rfl
          have hfz19_0:=blk_frozen BK270.out 0
          have hfz19_1:=blk_frozen BK270.out 1
          have hfz19_2:=blk_frozen BK270.out 2
          have hfz19_3:=blk_frozen BK270.out 3
          try go_wp2
          have n0_:=Aside0.mk (Kd.R_drew HO_7.out)
          have n1_:=Aside0.mk (blk_drew BK270.out)
          have n2_:=Aside0.mk (below_drew1 HB.out)
          clear HO_7
          clear BK270
          clear HB
          have HO_7:=n0_
          have BK270:=n1_
          have HB:=n2_
          clear n0_ n1_ n2_
          have p277 : 0≤(x8_1 : Int):=of_decide_eq_true (by first|(with_reducible assumption)|assumption)
          have q277 : x8_1 < (l0_0.length : Int):=of_decide_eq_true (by first|(with_reducible assumption)|assumption)
          obtain ⟨ad277,e277,hx277_0⟩:=Kd.at_int HR0_0.out x8_1 p277 q277
          have hw277_0:=hx277_0
          cases e277
          replace hx277_0:=(HB.out.cell (World.block_lt_of_cell? w _ hx277_0)).trans hx277_0
          replace p277:=eq_true p277
          replace q277:=eq_true q277
          have p278 : 0≤(x8_1 : Int):=of_decide_eq_true (by first|(with_reducible assumption)|assumption)
          have q278 : x8_1 < (l1.length : Int):=of_decide_eq_true (by first|(with_reducible assumption)|assumption)
          obtain ⟨ad278,e278,hx278_0,hx278_1⟩:=at_T45 HR1.out x8_1 p278 q278
          have hw278_1:=hx278_1
          have hw278_0:=hx278_0
          cases e278
          replace hx278_0:=(HB.out.cell (World.block_lt_of_cell? w _ hx278_0)).trans hx278_0
          replace hx278_1:=(HB.out.cell (World.block_lt_of_cell? w _ hx278_1)).trans hx278_1
          replace p278:=eq_true p278
          replace q278:=eq_true q278
          have p279 : 0≤(x8_1 : Int):=of_decide_eq_true (by first|(with_reducible assumption)|assumption)
          have q279 : x8_1 < (l2.length : Int):=of_decide_eq_true (by first|(with_reducible assumption)|assumption)
          obtain ⟨ad279,e279,hx279_0,hx279_1⟩:=at_T45 HR2.out x8_1 p279 q279
          have hw279_1:=hx279_1
          have hw279_0:=hx279_0
          cases e279
          replace hx279_0:=(HB.out.cell (World.block_lt_of_cell? w _ hx279_0)).trans hx279_0
          replace hx279_1:=(HB.out.cell (World.block_lt_of_cell? w _ hx279_1)).trans hx279_1
          replace p279:=eq_true p279
          replace q279:=eq_true q279
          refine start_ (n:=18) (S:=fun w'=>w'.cell? ⟨gb270,0,none⟩=some (.slice (some ad277) l0_0.length c0_0)∧w'.cell? ⟨gb270,1,none⟩=some (.int .i64 a0_1)∧w'.cell? ⟨gb270,2,none⟩=some (.int .i64 a0_2)∧w'.cell? ⟨gb270,3,none⟩=some (.int .i64 a0_3)∧w'.cell? (ad277.add (x8_1).toNat)=some (.int .i64 (rd l0_0 x8_1))∧w'.cell? (ad278.add ((x8_1).toNat * 2))=some (.int .i64 ((rd_T45 l1 x8_1).f0))∧w'.cell? ⟨(ad278.add ((x8_1).toNat * 2)).block,(ad278.add ((x8_1).toNat * 2)).off + 1,none⟩=some (.string ((rd_T45 l1 x8_1).f1))∧w'.cell? (ad279.add ((x8_1).toNat * 2))=some (.int .i64 ((rd_T45 l2 x8_1).f0))∧w'.cell? ⟨(ad279.add ((x8_1).toNat * 2)).block,(ad279.add ((x8_1).toNat * 2)).off + 1,none⟩=some (.string ((rd_T45 l2 x8_1).f1))) (ds:=[17]) #[false,false,false,false,false,false,false,false,false,false,false,false,false,false,false,false,false,false] (by kernel_rfl) rfl rfl ⟨(blk_cell BK270.out 0).trans rfl,(blk_cell BK270.out 1).trans rfl,(blk_cell BK270.out 2).trans rfl,(blk_cell BK270.out 3).trans rfl,((HB.out.cell (World.block_lt_of_cell? w _ hw277_0)).trans hw277_0),((HB.out.cell (World.block_lt_of_cell? w _ hw278_0)).trans hw278_0),((HB.out.cell (World.block_lt_of_cell? w _ hw278_1)).trans hw278_1),((HB.out.cell (World.block_lt_of_cell? w _ hw279_0)).trans hw279_0),((HB.out.cell (World.block_lt_of_cell? w _ hw279_1)).trans hw279_1)⟩ (fun hHeld=>?_);refine with_tabW thresherref13_One.tab5 thresherref13_One.bits5 (fun HT_ HW_=>?_)
          generalize wr.drew=w20 at HO_7 BK270 HB hx277_0 hx278_0 hx278_1 hx279_0 hx279_1 hHeld ⊢
          refine pure_ (i:=0) (N:=some 25) (v:=?_) (a':=?_) #[true,false,false,false,false,false,false,false,false,false,false,false,false,false,false,false,false,false] rfl rfl (any_of HT_.out (by kernel_rfl)) (fun _ _ _ h=>h) (Or.inl ⟨by rfl,?_⟩) ?_ ?_
          rotate_left;(intro w';go_simp;with_reducible rfl);rotate_left;(simp only [Act.put,List.setIfInBounds_toArray,List.set_cons_zero,List.set_cons_succ,i64_w,i32_w];rfl)
          refine pure_ (i:=1) (N:=some 26) (v:=?_) (a':=?_) #[true,true,false,false,false,false,false,false,false,false,false,false,false,false,false,false,false,false] rfl rfl (any_of HT_.out (by kernel_rfl)) (fun _ _ _ h=>h) (Or.inl ⟨by rfl,?_⟩) ?_ ?_
          rotate_left;(intro w';go_simp;with_reducible rfl);rotate_left;(simp only [Act.put,List.setIfInBounds_toArray,List.set_cons_zero,List.set_cons_succ,i64_w,i32_w];rfl)
          refine pure_ (i:=2) (N:=some 27) (v:=?_) (a':=?_) #[true,true,true,false,false,false,false,false,false,false,false,false,false,false,false,false,false,false] rfl rfl (any_of HT_.out (by kernel_rfl)) (fun _ _ _ h=>h) (Or.inl ⟨by rfl,?_⟩) ?_ ?_
          rotate_left;(intro w';go_simp;with_reducible rfl);rotate_left;(simp only [Act.put,List.setIfInBounds_toArray,List.set_cons_zero,List.set_cons_succ,i64_w,i32_w];rfl)
          refine pure_ (i:=4) (N:=some 29) (v:=?_) (a':=?_) #[true,true,true,false,true,false,false,false,false,false,false,false,false,false,false,false,false,false] rfl rfl (any_of HT_.out (by kernel_rfl)) (fun _ _ _ h=>h) (Or.inl ⟨by rfl,?_⟩) ?_ ?_
          rotate_left;(intro w';go_simp;with_reducible rfl);rotate_left;(simp only [Act.put,List.setIfInBounds_toArray,List.set_cons_zero,List.set_cons_succ,i64_w,i32_w];rfl)
          refine pure_ (i:=7) (N:=some 32) (v:=?_) (a':=?_) #[true,true,true,false,true,false,false,true,false,false,false,false,false,false,false,false,false,false] rfl rfl (any_of HT_.out (by kernel_rfl)) (fun _ _ _ h=>h) (Or.inl ⟨by rfl,?_⟩) ?_ ?_
          rotate_left;(intro w';go_simp;with_reducible rfl);rotate_left;(simp only [Act.put,List.setIfInBounds_toArray,List.set_cons_zero,List.set_cons_succ,i64_w,i32_w];rfl)
          refine pure_ (i:=8) (N:=some 33) (v:=?_) (a':=?_) #[true,true,true,false,true,false,false,true,true,false,false,false,false,false,false,false,false,false] rfl rfl (any_of HT_.out (by kernel_rfl)) (fun _ _ _ h=>h) (Or.inl ⟨by rfl,?_⟩) ?_ ?_
          rotate_left;(intro w';go_simp;with_reducible rfl);rotate_left;(simp only [Act.put,List.setIfInBounds_toArray,List.set_cons_zero,List.set_cons_succ,i64_w,i32_w];rfl)
          refine pure_ (i:=9) (N:=some 34) (v:=?_) (a':=?_) #[true,true,true,false,true,false,false,true,true,true,false,false,false,false,false,false,false,false] rfl rfl (any_of HT_.out (by kernel_rfl)) (fun _ _ _ h=>h) (Or.inl ⟨by rfl,?_⟩) ?_ ?_
          rotate_left;(intro w';go_simp;with_reducible rfl);rotate_left;(simp only [Act.put,List.setIfInBounds_toArray,List.set_cons_zero,List.set_cons_succ,i64_w,i32_w];rfl)
          refine pure_ (i:=11) (N:=some 36) (v:=?_) (a':=?_) #[true,true,true,false,true,false,false,true,true,true,false,true,false,false,false,false,false,false] rfl rfl (any_of HT_.out (by kernel_rfl)) (fun _ _ _ h=>h) (Or.inl ⟨by rfl,?_⟩) ?_ ?_
          rotate_left;(intro w';go_simp;with_reducible rfl);rotate_left;(simp only [Act.put,List.setIfInBounds_toArray,List.set_cons_zero,List.set_cons_succ,i64_w,i32_w];rfl)
          refine pure_ (i:=12) (N:=some 37) (v:=?_) (a':=?_) #[true,true,true,false,true,false,false,true,true,true,false,true,true,false,false,false,false,false] rfl rfl (any_of HT_.out (by kernel_rfl)) (fun _ _ _ h=>h) (Or.inl ⟨by rfl,?_⟩) ?_ ?_
          rotate_left;(intro w';go_simp;with_reducible rfl);rotate_left;(simp only [Act.put,List.setIfInBounds_toArray,List.set_cons_zero,List.set_cons_succ,i64_w,i32_w];rfl)
          refine pure_ (i:=13) (N:=some 38) (v:=?_) (a':=?_) #[true,true,true,false,true,false,false,true,true,true,false,true,true,true,false,false,false,false] rfl rfl (any_of HT_.out (by kernel_rfl)) (fun _ _ _ h=>h) (Or.inl ⟨by rfl,?_⟩) ?_ ?_
          rotate_left;(intro w';go_simp;with_reducible rfl);rotate_left;(simp only [Act.put,List.setIfInBounds_toArray,List.set_cons_zero,List.set_cons_succ,i64_w,i32_w];rfl)
          refine take_ (i:=3) (N:=some 28) (v:=?_) (a':=?_) #[true,true,true,true,true,false,false,true,true,true,false,true,true,true,false,false,false,false] rfl rfl (take_ofW HT_.out HW_.out (by kernel_rfl)) (fun _ _ _ h=>h) (Or.inl ⟨by rfl,?_⟩) hHeld ?_ ?_
          rotate_left;(rintro w' ⟨s0,s1,s2,s3,s4,s5,s6,s7,s8⟩;go_simp;with_reducible rfl);rotate_left;(simp only [Act.put,List.setIfInBounds_toArray,List.set_cons_zero,List.set_cons_succ,i64_w,i32_w];rfl)
          refine pure_ (i:=5) (N:=some 30) (v:=?_) (a':=?_) #[true,true,true,true,true,true,false,true,true,true,false,true,true,true,false,false,false,false] rfl rfl (any_of HT_.out (by kernel_rfl)) (fun _ _ _ h=>h) (Or.inl ⟨by rfl,?_⟩) ?_ ?_
          rotate_left;(intro w';go_simp;with_reducible rfl);rotate_left;(simp only [Act.put,List.setIfInBounds_toArray,List.set_cons_zero,List.set_cons_succ,i64_w,i32_w];rfl)
          refine take_ (i:=6) (N:=some 31) (v:=?_) (a':=?_) #[true,true,true,true,true,true,true,true,true,true,false,true,true,true,false,false,false,false] rfl rfl (take_ofW HT_.out HW_.out (by kernel_rfl)) (fun _ _ _ h=>h) (Or.inl ⟨by rfl,?_⟩) hHeld ?_ ?_
          rotate_left;(rintro w' ⟨s0,s1,s2,s3,s4,s5,s6,s7,s8⟩;go_simp;with_reducible rfl);rotate_left;(simp only [Act.put,List.setIfInBounds_toArray,List.set_cons_zero,List.set_cons_succ,i64_w,i32_w];rfl)
          refine take_ (i:=10) (N:=some 35) (v:=?_) (a':=?_) #[true,true,true,true,true,true,true,true,true,true,true,true,true,true,false,false,false,false] rfl rfl (take_ofW HT_.out HW_.out (by kernel_rfl)) (fun _ _ _ h=>h) (Or.inl ⟨by rfl,?_⟩) hHeld ?_ ?_
          rotate_left;(rintro w' ⟨s0,s1,s2,s3,s4,s5,s6,s7,s8⟩;go_simp;with_reducible rfl);rotate_left;(simp only [Act.put,List.setIfInBounds_toArray,List.set_cons_zero,List.set_cons_succ,i64_w,i32_w];rfl)
          refine take_ (i:=14) (N:=some 39) (v:=?_) (a':=?_) #[true,true,true,true,true,true,true,true,true,true,true,true,true,true,true,false,false,false] rfl rfl (take_ofW HT_.out HW_.out (by kernel_rfl)) (fun _ _ _ h=>h) (Or.inl ⟨by rfl,?_⟩) hHeld ?_ ?_
          rotate_left;(rintro w' ⟨s0,s1,s2,s3,s4,s5,s6,s7,s8⟩;go_simp;with_reducible rfl);rotate_left;(simp only [Act.put,List.setIfInBounds_toArray,List.set_cons_zero,List.set_cons_succ,i64_w,i32_w];rfl)
          refine one_ (i:=15) (N:=some 40) #[true,true,true,true,true,true,true,true,true,true,true,true,true,true,true,true,false,false] rfl rfl (one_of HT_.out (by kernel_rfl)) (by decide) (fun K hK=>?_)
          refine goes_ Try.func25 (by kernel_rfl) rfl #[.int .i64 (rd l0_0 x8_1),.agg #[.int .i64 ((rd_T45 l1 x8_1).f0),.string ((rd_T45 l1 x8_1).f1)],.agg #[.int .i64 ((rd_T45 l2 x8_1).f0),.string ((rd_T45 l2 x8_1).f1)]] (by rfl) rfl rfl (by (try simp only [List.map_toArray,List.map_cons,List.map_nil]);first|done|rfl|(simp only [List.length_drop,List.length_take];rfl)) ?_
          with_reducible refine (thresherref03_Add.calls k1 (rd l0_0 x8_1) ((rd_T45 l1 x8_1).f0) ((rd_T45 l1 x8_1).f1) ((rd_T45 l2 x8_1).f0) ((rd_T45 l2 x8_1).f1) t280 t281 _ A16.out).mono ?_
          rintro e w21 ⟨rfl,hb⟩
          refine ⟨_,rfl,?_⟩
          have n0_:=Aside0.mk (Kd.R_below (by (with_reducible repeat (first|apply Kd.R_alloc|apply Kd.R_drewN|apply Kd.R_drew));exact HO_7.out) hb)
          have n1_:=Aside0.mk (blk_below (g:=gb270) (o:=.cells #[.slice (some ad277) l0_0.length c0_0,.int .i64 a0_1,.int .i64 a0_2,.int .i64 a0_3] 29 (0,0)) (by (with_reducible repeat (first|refine blk_drewN ?_ _|refine blk_drew ?_|refine blk_alloc ?_ _));exact BK270.out) hb)
          have n2_:=Aside0.mk (below_step (by repeat (first|(with_reducible first|exact HB.out|apply below_alloc|apply pw_below_drewN|apply below_drew1|refine below_set ?_ GE270.out)|exact HB.out)) hb)
          clear HO_7
          clear BK270
          clear HB
          have HO_7:=n0_
          have BK270:=n1_
          have HB:=n2_
          clear n0_ n1_ n2_
          (try clear hb)
          (try clear hb2)
          (try clear hk)
          (try clear hi)
          have p17 : 0≤(x8_1 : Int):=of_decide_eq_true (by first|(with_reducible assumption)|assumption)
          have q17 : (x8_1 : Int) < ((x7_1.length : Int) : Int):=of_decide_eq_true (by first|(with_reducible assumption)|assumption)
          obtain ⟨go17,co17,eo17,gb17,gl17,cl17,HG17⟩:=Kd.R_form HO_7.out (by omega)
          (first|cases eo17|(injection eo17 with ea_ en_ ec_;(first|subst ea_|(injection ea_ with ea_;subst ea_));subst ec_;clear en_))
          have GB17:=Aside0.mk gb17
          have GG17:=Aside0.mk HG17
          clear gb17 gl17 HG17
          obtain ⟨ce17,hcl17,hM17,hcc17,hfr17⟩:=Kd.R_elem HO_7.out z45 (x8_1 : Int) p17 q17
          obtain rfl:=k45_openM hM17
          have hx17_0 : World.cell? _ ⟨go17,(x8_1 : Int).toNat * 2,none⟩=some (.int .i64 ((rd_T45 x7_1 x8_1).f0)):=hcc17 0 _ rfl
          have hx17_1 : World.cell? _ ⟨go17,(x8_1 : Int).toNat * 2 + 1,none⟩=some (.string ((rd_T45 x7_1 x8_1).f1)):=hcc17 1 _ rfl
          have hf17_0 : World.frozen? _ ⟨go17,(x8_1 : Int).toNat * 2,none⟩=false:=hfr17 0
          have hf17_1 : World.frozen? _ ⟨go17,(x8_1 : Int).toNat * 2 + 1,none⟩=false:=hfr17 1
          clear hcl17 hcc17 hfr17 hM17
          replace p17:=eq_true p17
          replace q17:=eq_true q17
          obtain ⟨ce22,hcl22,hM22,hcc22,hfr22⟩:=Kd.R_elem HO_7.out z45 (x8_1 : Int) (of_decide_eq_true (by first|(with_reducible assumption)|assumption)) (by have h_ : (x8_1 : Int) < ((x7_1.length : Int) : Int):=of_decide_eq_true (by first|(with_reducible assumption)|assumption);first|exact h_|(have e_:=(Kd.R_reads' HO_7.out).1;omega)|simpa using h_)
          obtain rfl:=k45_openM hM22
          have HP22:=(Kd.R_seg HO_7.out (x8_1 : Int) (of_decide_eq_true (by first|(with_reducible assumption)|assumption)) (by have h_ : (x8_1 : Int) < ((x7_1.length : Int) : Int):=of_decide_eq_true (by first|(with_reducible assumption)|assumption);first|exact h_|(have e_:=(Kd.R_reads' HO_7.out).1;omega)|simpa using h_) (seg:=[.int .i64 t280,.string t281]) (j:=0) hcl22 hcc22 (show 2≤2 from by decide) (x':=(⟨t280,t281⟩ : S45)) (k45_mkM _ _ _ (⟨t280,t281⟩ : S45) ) (fun _ hk=>hk)).1
          rw [← Ny282.out] at HP22
          have HQ22:=Aside0.mk HP22
          clear hcl22 hcc22 hfr22 hM22 HP22
          refine hK.out _ _ ⟨(blk_cell BK270.out 0).trans rfl,(blk_cell BK270.out 1).trans rfl,(blk_cell BK270.out 2).trans rfl,(blk_cell BK270.out 3).trans rfl,((HB.out.cell (World.block_lt_of_cell? w _ hw277_0)).trans hw277_0),((HB.out.cell (World.block_lt_of_cell? w _ hw278_0)).trans hw278_0),((HB.out.cell (World.block_lt_of_cell? w _ hw278_1)).trans hw278_1),((HB.out.cell (World.block_lt_of_cell? w _ hw279_0)).trans hw279_0),((HB.out.cell (World.block_lt_of_cell? w _ hw279_1)).trans hw279_1)⟩ (fun hHeld=>?_)
          clear hK K
          refine norm_ (a':=?_) ?_ ?_
          rotate_left
          ·show Act.put _ (some 40) _=_
           simp only [Act.put,List.setIfInBounds_toArray,List.set_cons_zero,List.set_cons_succ,i64_w,i32_w]
           rfl
          refine pure_ (i:=16) (N:=some 41) (v:=?_) (a':=?_) #[true,true,true,true,true,true,true,true,true,true,true,true,true,true,true,true,true,false] rfl rfl (any_of HT_.out (by kernel_rfl)) (fun _ _ _ h=>h) (Or.inl ⟨by rfl,?_⟩) ?_ ?_
          rotate_left;(intro w';go_simp;with_reducible rfl);rotate_left;(simp only [Act.put,List.setIfInBounds_toArray,List.set_cons_zero,List.set_cons_succ,i64_w,i32_w];rfl)
          refine last_ (i:=17) (N:=none) #[true,true,true,true,true,true,true,true,true,true,true,true,true,true,true,true,true,true] rfl rfl (one_of HT_.out (by kernel_rfl)) (by decide) (fun K hK=>?_)
          refine skip_ (w1:=?_) (by rfl) rfl ?_ ?_
          rotate_left
          ·go_simp
           rfl
          refine hK.out _ _ ?_
          clear hK K
          refine done_ (done_of HT_.out (by kernel_rfl)) ?_
          (try clear hHeld)
          try go_wp2
          go_roundg k1
          case measure=>have:=HK1.out;omega
          case rel=>exact ⟨(y282),(wrap64 (x8_1 + 1)),(by first|rfl|(simp;done)|(simp [*];done)),(by first|exact H'|(subst_vars;exact H')),⟨by have:=HK1.out;omega⟩,⟨by (with_reducible repeat (first|apply Kd.R_alloc|apply Kd.R_drewN|apply Kd.R_drew));exact HQ22.out⟩,⟨by (with_reducible repeat (first|refine blk_drewN ?_ _|refine blk_drew ?_|refine blk_alloc ?_ _));refine blk_far ?_ (by have h_:=Kd.R_ne HO_7.out BK270.out (by decide);intro e_;exact h_ (by rw [e_];rfl)) _;(with_reducible repeat (first|refine blk_drewN ?_ _|refine blk_drew ?_|refine blk_alloc ?_ _));refine blk_far ?_ (by have h_:=Kd.R_ne HO_7.out BK270.out (by decide);intro e_;exact h_ (by rw [e_];rfl)) _;(with_reducible repeat (first|refine blk_drewN ?_ _|refine blk_drew ?_|refine blk_alloc ?_ _));exact BK270.out⟩,⟨by repeat (first|(with_reducible first|exact HB.out|apply below_alloc|apply pw_below_drewN|apply below_drew1|refine below_set ?_ GB17.out|refine below_set ?_ GB17.out|refine below_set ?_ GE270.out)|exact HB.out)⟩⟩
         ·rw [if_neg c15] at H
          exact absurd H (by simp)
        ·rw [if_neg c14] at H
         exact absurd H (by simp)
       ·rw [if_neg c13] at H
        exact absurd H (by simp)
      ·rw [if_neg c12] at H
       exact absurd H (by simp)
     ·rw [if_neg c11] at H
      have c11b0 : (a0_2 == 3)=false:=beq_eq_false_iff_ne.mpr c11
      have c11b1 : (a0_2 != 3)=true:=bne_iff_ne.mpr c11
      obtain rfl:=Option.some.inj H
      obtain ⟨Ao23,co23,eo23⟩:=Kd.R_slice HO_7.out
      subst eo23
      have hcz24_0 : wr.cell? ⟨gb270,0,none⟩=some (.slice A0_0 l0_0.length c0_0):=(blk_cell BK270.out 0).trans rfl
      have hcz24_1 : wr.cell? ⟨gb270,1,none⟩=some (.int .i64 a0_1):=(blk_cell BK270.out 1).trans rfl
      have hcz24_2 : wr.cell? ⟨gb270,2,none⟩=some (.int .i64 a0_2):=(blk_cell BK270.out 2).trans rfl
      have hcz24_3 : wr.cell? ⟨gb270,3,none⟩=some (.int .i64 a0_3):=(blk_cell BK270.out 3).trans rfl
      have hfz24_0:=blk_frozen BK270.out 0
      have hfz24_1:=blk_frozen BK270.out 1
      have hfz24_2:=blk_frozen BK270.out 2
      have hfz24_3:=blk_frozen BK270.out 3
      go_wp2
      go_ret
      exact ⟨_,by first|rfl|(simp [errW_none,errW_some] <;> rfl)|(simp [*,errW_none,errW_some] <;> rfl),by (with_reducible repeat (first|apply Kd.R_alloc|apply Kd.R_drewN|apply Kd.R_drew));exact HO_7.out,by repeat (first|(with_reducible first|exact HB.out|apply below_alloc|apply pw_below_drewN|apply below_drew1|refine below_set ?_ GE270.out)|exact HB.out)⟩
    ·rw [if_neg c10] at H
     have c10b0 : decide (x8_1 < (x7_1.length : Int))=false:=decide_eq_false c10
     clear c10
     obtain rfl:=Option.some.inj H
     obtain ⟨Ao25,co25,eo25⟩:=Kd.R_slice HO_7.out
     subst eo25
     go_wp2
     go_ret
     exact ⟨_,by first|rfl|(simp [errW_none,errW_some] <;> rfl)|(simp [*,errW_none,errW_some] <;> rfl),by (with_reducible repeat (first|apply Kd.R_alloc|apply Kd.R_drewN|apply Kd.R_drew));exact HO_7.out,by repeat (first|(with_reducible first|exact HB.out|apply below_alloc|apply pw_below_drewN|apply below_drew1|refine below_set ?_ GE270.out)|exact HB.out)⟩
 ·rw [if_neg c4] at H
  exact absurd H (by simp)
end Go.Proofs.Ytmanchjamkpklaa.P

