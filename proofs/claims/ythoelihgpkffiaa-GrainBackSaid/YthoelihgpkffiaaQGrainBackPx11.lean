/- Texts of GrainBack. Merged: Px11. -/
import Derived.Test.YthoelihgpkffiaaQGrainBackPx0
import Derived.Test.YthoelihgpkffiaaQGrainBackPx1
namespace Go.Proofs.Ythoelihgpkffiaa.P
open Go.RowKit Go.Proofs.YthoelihgpkffiaaW.PrintWords Go.Proofs.YthoelihgpkffiaaW.PrintLast Go.Proofs.YthoelihgpkffiaaW.PrintMore
attribute [local go_sem] max2_int min2_int max_two min_two max_three min_three max_four min_four   -- for this text's walks alone
set_option linter.unusedVariables false
set_option linter.unusedSimpArgs false
attribute [local go_sem high] eqA45
def thresherref04_One.l0 : Nat→List (S45)→List (S45)→Int→Option (Bool)
 | 0,_,_,_=>none
 | k + 1,x0,x1,x5=>if x5 < (x0.length : Int) then (if 0≤x5 then (if x5 < (x1.length : Int) then (if (!(((rd_T45 x0 x5).f0) == ((rd_T45 x1 x5).f0)) || (!((((rd_T45 x0 x5).f1).toList) == (((rd_T45 x1 x5).f1).toList))))=true then (some false) else (thresherref04_One.l0 k x0 x1 (wrap64 (x5 + 1)))) else (none)) else (none)) else (some true)
def thresherref04_One.f (k : Nat) (l0 : List (S45)) (l1 : List (S45)) : Option (Bool):=if (l0.length : Int)=(l1.length : Int) then (thresherref04_One.l0 k l0 l1 0) else (some false)
theorem thresherref04_One.mono_l : ∀ k,(∀ y0 y1 y2,LeO (thresherref04_One.l0 k y0 y1 y2) (thresherref04_One.l0 (k + 1) y0 y1 y2))
 | 0=>fun _ _ _ r h=>by simp [thresherref04_One.l0] at h
 | k + 1=>by
  have ih0:=thresherref04_One.mono_l k
  ·intro y0 y1 y2
   unfold thresherref04_One.l0
   repeat' first
   | (with_reducible exact ih0 _ _ _)
   | (with_reducible exact LeO.refl _)
   | (with_reducible exact LeO.none _)
   | (with_reducible refine LeO.ite ?_ ?_)
   | (with_reducible refine LeO.bind ?_ (fun _=>?_))
   | exact ih0 _ _ _
   | exact LeO.none _
   | refine LeO.ite ?_ ?_
   | refine LeO.bind ?_ (fun _=>?_)
theorem thresherref04_One.mono : ∀ a0 a1 k,LeO (thresherref04_One.f k a0 a1) (thresherref04_One.f (k + 1) a0 a1):=by
 intro a0 a1 k
 have ih0:=thresherref04_One.mono_l k
 unfold thresherref04_One.f
 repeat' first
   | (with_reducible exact ih0 _ _ _)
   | (with_reducible exact LeO.refl _)
   | (with_reducible exact LeO.none _)
   | (with_reducible refine LeO.ite ?_ ?_)
   | (with_reducible refine LeO.bind ?_ (fun _=>?_))
   | exact ih0 _ _ _
   | exact LeO.none _
   | refine LeO.ite ?_ ?_
   | refine LeO.bind ?_ (fun _=>?_)
set_option maxHeartbeats 8000000 in
set_option maxRecDepth 100000 in
theorem thresherref04_One.calls (k : Nat) (A0 : Option Addr) (c0 : Nat) (l0 : List (S45)) (A1 : Option Addr) (c1 : Nat) (l1 : List (S45)) (r : Bool) (w : World) (hr0 : Kd.C k45 w A0 l0.length l0) (hc0 : l0.length≤c0) (hr1 : Kd.C k45 w A1 l1.length l1) (hc1 : l1.length≤c1) (h : thresherref04_One.f k l0 l1=some r) :
  Calls Try.prog 22 #[.slice A0 l0.length c0,.slice A1 l1.length c1] w fun e w'=>e=.returned (.bool r)∧Drawn0 w w':=by
 have hu45:=Try.underlying45
 have HR0:=Aside0.mk hr0
 have HC0:=Aside0.mk hc0
 clear hr0 hc0
 have HR1:=Aside0.mk hr1
 have HC1:=Aside0.mk hc1
 clear hr1 hc1
 have H : (if (l0.length : Int)=(l1.length : Int) then (thresherref04_One.l0 k l0 l1 0) else (some false))=some r:=h
 clear h
 by_cases c3 : (l0.length : Int)=(l1.length : Int)
 ·rw [if_pos c3] at H
  have c3b0 : ((l0.length : Int) == (l1.length : Int))=true:=beq_iff_eq.mpr c3
  have c3b1 : ((l0.length : Int) != (l1.length : Int))=false:=bne_eq_false_iff_eq.mpr c3
  have c3b2 : (l0.length == l1.length)=true:=by first|simpa using c3|(simp at c3 ⊢;omega)
  clear c3
  have H':=Aside0.mk H
  clear H
  go_enter Try.func22,Try.ntmps22
  go_wp2
  repeat (go_quiet (fail);try go_wp2)
  go_loopg [5] k (fun kq v5 w'=>∃ (x5_1 : Int),v5=.int .i64 x5_1∧Aside0 (thresherref04_One.l0 kq l0 l1 x5_1=some r)∧Aside0 (kq≤k)∧Drawn0 w w')
  case atStart=>exact ⟨(0),(by first|rfl|(simp;done)|(simp [*];done)),H',⟨Nat.le_refl _⟩,by repeat (first|exact Drawn0.refl _|apply Drawn0.step)⟩
  case round =>
   clear H'
   try clear c1
   try clear c2
   try clear p2
   try clear c3
   try clear c3b0
   try clear c3b1
   try clear c3b2
   obtain ⟨x5_1,rfl,HA,HK1,⟨m1,rfl⟩⟩:=hrel
   cases gk with
   | zero=>exact absurd HA.out (by simp [thresherref04_One.l0])
   | succ k1 =>
    have H:=HA.out
    clear HA
    simp only [thresherref04_One.l0] at H
    by_cases c4 : x5_1 < (l0.length : Int)
    ·rw [if_pos c4] at H
     have c4b0 : decide (x5_1 < (l0.length : Int))=true:=decide_eq_true c4
     clear c4
     by_cases c5 : 0≤x5_1
     ·rw [if_pos c5] at H
      have c5b0 : decide (0≤x5_1)=true:=decide_eq_true c5
      clear c5
      by_cases c6 : x5_1 < (l1.length : Int)
      ·rw [if_pos c6] at H
       have c6b0 : decide (x5_1 < (l1.length : Int))=true:=decide_eq_true c6
       clear c6
       by_cases c7 : (!(((rd_T45 l0 x5_1).f0) == ((rd_T45 l1 x5_1).f0)) || (!((((rd_T45 l0 x5_1).f1).toList) == (((rd_T45 l1 x5_1).f1).toList))))=true
       ·rw [if_pos c7] at H
        have c7b0 : (!(((rd_T45 l0 x5_1).f0) == ((rd_T45 l1 x5_1).f0)) || (!((((rd_T45 l0 x5_1).f1).toList) == (((rd_T45 l1 x5_1).f1).toList))))=true:=c7
        clear c7
        obtain rfl:=Option.some.inj H
        have p373 : 0≤(x5_1 : Int):=of_decide_eq_true (by first|(with_reducible assumption)|assumption)
        have q373 : x5_1 < (l0.length : Int):=of_decide_eq_true (by first|(with_reducible assumption)|assumption)
        obtain ⟨ad373,e373,hx373_0,hx373_1⟩:=at_T45 HR0.out x5_1 p373 q373
        cases e373
        replace p373:=eq_true p373
        replace q373:=eq_true q373
        have p374 : 0≤(x5_1 : Int):=of_decide_eq_true (by first|(with_reducible assumption)|assumption)
        have q374 : x5_1 < (l1.length : Int):=of_decide_eq_true (by first|(with_reducible assumption)|assumption)
        obtain ⟨ad374,e374,hx374_0,hx374_1⟩:=at_T45 HR1.out x5_1 p374 q374
        cases e374
        replace p374:=eq_true p374
        replace q374:=eq_true q374
        go_wp2
        repeat (go_quiet (fail);try go_wp2)
        go_ret
        exact ⟨by first|rfl|(simp;done)|(simp [*];done),by repeat (first|exact Drawn0.refl _|apply Drawn0.step)⟩
       ·rw [if_neg c7] at H
        have c7b0 : (!(((rd_T45 l0 x5_1).f0) == ((rd_T45 l1 x5_1).f0)) || (!((((rd_T45 l0 x5_1).f1).toList) == (((rd_T45 l1 x5_1).f1).toList))))=false:=by simpa using c7
        clear c7
        have H':=Aside0.mk H
        clear H
        have p373 : 0≤(x5_1 : Int):=of_decide_eq_true (by first|(with_reducible assumption)|assumption)
        have q373 : x5_1 < (l0.length : Int):=of_decide_eq_true (by first|(with_reducible assumption)|assumption)
        obtain ⟨ad373,e373,hx373_0,hx373_1⟩:=at_T45 HR0.out x5_1 p373 q373
        cases e373
        replace p373:=eq_true p373
        replace q373:=eq_true q373
        have p374 : 0≤(x5_1 : Int):=of_decide_eq_true (by first|(with_reducible assumption)|assumption)
        have q374 : x5_1 < (l1.length : Int):=of_decide_eq_true (by first|(with_reducible assumption)|assumption)
        obtain ⟨ad374,e374,hx374_0,hx374_1⟩:=at_T45 HR1.out x5_1 p374 q374
        cases e374
        replace p374:=eq_true p374
        replace q374:=eq_true q374
        go_wp2
        repeat (go_quiet (fail);try go_wp2)
        go_roundg k1
        case measure=>have:=HK1.out;omega
        case rel=>exact ⟨(wrap64 (x5_1 + 1)),(by first|rfl|(simp;done)|(simp [*];done)),(by first|exact H'|(subst_vars;exact H')),⟨by have:=HK1.out;omega⟩,by repeat (first|exact Drawn0.refl _|apply Drawn0.step)⟩
      ·rw [if_neg c6] at H
       exact absurd H (by simp)
     ·rw [if_neg c5] at H
      exact absurd H (by simp)
    ·rw [if_neg c4] at H
     have c4b0 : decide (x5_1 < (l0.length : Int))=false:=decide_eq_false c4
     clear c4
     obtain rfl:=Option.some.inj H
     go_wp2
     repeat (go_quiet (fail);try go_wp2)
     go_ret
     exact ⟨by first|rfl|(simp;done)|(simp [*];done),by repeat (first|exact Drawn0.refl _|apply Drawn0.step)⟩
 ·rw [if_neg c3] at H
  have c3b0 : ((l0.length : Int) == (l1.length : Int))=false:=beq_eq_false_iff_ne.mpr c3
  have c3b1 : ((l0.length : Int) != (l1.length : Int))=true:=bne_iff_ne.mpr c3
  have c3b2 : (l0.length == l1.length)=false:=by first|simpa using c3|(simp at c3 ⊢;omega)
  obtain rfl:=Option.some.inj H
  go_enter Try.func22,Try.ntmps22
  go_wp2
  repeat (go_quiet (fail);try go_wp2)
  go_ret
  exact ⟨by first|rfl|(simp;done)|(simp [*];done),by repeat (first|exact Drawn0.refl _|apply Drawn0.step)⟩
def thresherref04_Rows.l0 : Nat→List (List (S45))→List (List (S45))→Int→Option (Bool)
 | 0,_,_,_=>none
 | k + 1,x0,x1,x5=>if x5 < (x0.length : Int) then (if 0≤x5 then (if x5 < (x1.length : Int) then ((thresherref04_One.f k (rd_L3 x0 x5) (rd_L3 x1 x5)).bind fun t377=>(if t377=true then (thresherref04_Rows.l0 k x0 x1 (wrap64 (x5 + 1))) else (some false))) else (none)) else (none)) else (some true)
def thresherref04_Rows.f (k : Nat) (l0 : List (List (S45))) (l1 : List (List (S45))) : Option (Bool):=if (l0.length : Int)=(l1.length : Int) then (thresherref04_Rows.l0 k l0 l1 0) else (some false)
theorem thresherref04_Rows.mono_l : ∀ k,(∀ y0 y1 y2,LeO (thresherref04_Rows.l0 k y0 y1 y2) (thresherref04_Rows.l0 (k + 1) y0 y1 y2))
 | 0=>fun _ _ _ r h=>by simp [thresherref04_Rows.l0] at h
 | k + 1=>by
  have ih0:=thresherref04_Rows.mono_l k
  ·intro y0 y1 y2
   unfold thresherref04_Rows.l0
   repeat' first
   | (with_reducible exact ih0 _ _ _)
   | (with_reducible exact thresherref04_One.mono _ _ _)
   | (with_reducible exact LeO.refl _)
   | (with_reducible exact LeO.none _)
   | (with_reducible refine LeO.ite ?_ ?_)
   | (with_reducible refine LeO.bind ?_ (fun _=>?_))
   | exact ih0 _ _ _
   | exact thresherref04_One.mono _ _ _
   | exact LeO.none _
   | refine LeO.ite ?_ ?_
   | refine LeO.bind ?_ (fun _=>?_)
theorem thresherref04_Rows.mono : ∀ a0 a1 k,LeO (thresherref04_Rows.f k a0 a1) (thresherref04_Rows.f (k + 1) a0 a1):=by
 intro a0 a1 k
 have ih0:=thresherref04_Rows.mono_l k
 unfold thresherref04_Rows.f
 repeat' first
   | (with_reducible exact ih0 _ _ _)
   | (with_reducible exact thresherref04_One.mono _ _ _)
   | (with_reducible exact LeO.refl _)
   | (with_reducible exact LeO.none _)
   | (with_reducible refine LeO.ite ?_ ?_)
   | (with_reducible refine LeO.bind ?_ (fun _=>?_))
   | exact ih0 _ _ _
   | exact thresherref04_One.mono _ _ _
   | exact LeO.none _
   | refine LeO.ite ?_ ?_
   | refine LeO.bind ?_ (fun _=>?_)
set_option maxHeartbeats 8000000 in
set_option maxRecDepth 100000 in
theorem thresherref04_Rows.calls (k : Nat) (A0 : Option Addr) (c0 : Nat) (l0 : List (List (S45))) (A1 : Option Addr) (c1 : Nat) (l1 : List (List (S45))) (r : Bool) (w : World) (hr0 : Kd.C (Kd.slice 45 k45) w A0 l0.length l0) (hc0 : l0.length≤c0) (hr1 : Kd.C (Kd.slice 45 k45) w A1 l1.length l1) (hc1 : l1.length≤c1) (h : thresherref04_Rows.f k l0 l1=some r) :
  Calls Try.prog 19 #[.slice A0 l0.length c0,.slice A1 l1.length c1] w fun e w'=>e=.returned (.bool r)∧Drawn0 w w':=by
 have HR0:=Aside0.mk hr0
 have HC0:=Aside0.mk hc0
 clear hr0 hc0
 have HR1:=Aside0.mk hr1
 have HC1:=Aside0.mk hc1
 clear hr1 hc1
 have H : (if (l0.length : Int)=(l1.length : Int) then (thresherref04_Rows.l0 k l0 l1 0) else (some false))=some r:=h
 clear h
 by_cases c3 : (l0.length : Int)=(l1.length : Int)
 ·rw [if_pos c3] at H
  have c3b0 : ((l0.length : Int) == (l1.length : Int))=true:=beq_iff_eq.mpr c3
  have c3b1 : ((l0.length : Int) != (l1.length : Int))=false:=bne_eq_false_iff_eq.mpr c3
  have c3b2 : (l0.length == l1.length)=true:=by first|simpa using c3|(simp at c3 ⊢;omega)
  clear c3
  have H':=Aside0.mk H
  clear H
  go_enter Try.func19,Try.ntmps19
  go_wp2
  repeat (go_quiet (fail);try go_wp2)
  go_loopg [5] k (fun kq v5 w'=>∃ (x5_1 : Int),v5=.int .i64 x5_1∧Aside0 (thresherref04_Rows.l0 kq l0 l1 x5_1=some r)∧Aside0 (kq≤k)∧Drawn0 w w')
  case atStart=>exact ⟨(0),(by first|rfl|(simp;done)|(simp [*];done)),H',⟨Nat.le_refl _⟩,by repeat (first|exact Drawn0.refl _|apply Drawn0.step)⟩
  case round =>
   clear H'
   try clear c1
   try clear p2
   try clear c3
   try clear c3b0
   try clear c3b1
   try clear c3b2
   obtain ⟨x5_1,rfl,HA,HK1,⟨m1,rfl⟩⟩:=hrel
   cases gk with
   | zero=>exact absurd HA.out (by simp [thresherref04_Rows.l0])
   | succ k1 =>
    have H:=HA.out
    clear HA
    simp only [thresherref04_Rows.l0] at H
    by_cases c4 : x5_1 < (l0.length : Int)
    ·rw [if_pos c4] at H
     have c4b0 : decide (x5_1 < (l0.length : Int))=true:=decide_eq_true c4
     clear c4
     by_cases c5 : 0≤x5_1
     ·rw [if_pos c5] at H
      have c5b0 : decide (0≤x5_1)=true:=decide_eq_true c5
      clear c5
      by_cases c6 : x5_1 < (l1.length : Int)
      ·rw [if_pos c6] at H
       have c6b0 : decide (x5_1 < (l1.length : Int))=true:=decide_eq_true c6
       clear c6
       replace H:=Option.bind_eq_some_iff.mp H
       obtain ⟨t377,A70,H⟩:=H
       replace H : (if t377=true then (thresherref04_Rows.l0 k1 l0 l1 (wrap64 (x5_1 + 1))) else (some false))=some r:=H
       have A7:=Aside0.mk A70
       clear A70
       by_cases c8 : t377=true
       ·subst c8
        have H1 : (thresherref04_Rows.l0 k1 l0 l1 (wrap64 (x5_1 + 1)))=some r:=by rw [if_pos rfl] at H;exact H
        clear H
        have H:=H1
        clear H1
        have H':=Aside0.mk H
        clear H
        have p375 : 0≤(x5_1 : Int):=of_decide_eq_true (by first|(with_reducible assumption)|assumption)
        have q375 : x5_1 < (l0.length : Int):=of_decide_eq_true (by first|(with_reducible assumption)|assumption)
        obtain ⟨ad375,A375_0,c375_0,e375,hx375_0,hl375_0,hi375_0⟩:=at_L3 HR0.out x5_1 p375 q375
        cases e375
        have HR375_0:=Aside0.mk hi375_0
        have HC375_0:=Aside0.mk hl375_0
        clear hi375_0 hl375_0
        replace p375:=eq_true p375
        replace q375:=eq_true q375
        have p376 : 0≤(x5_1 : Int):=of_decide_eq_true (by first|(with_reducible assumption)|assumption)
        have q376 : x5_1 < (l1.length : Int):=of_decide_eq_true (by first|(with_reducible assumption)|assumption)
        obtain ⟨ad376,A376_0,c376_0,e376,hx376_0,hl376_0,hi376_0⟩:=at_L3 HR1.out x5_1 p376 q376
        cases e376
        have HR376_0:=Aside0.mk hi376_0
        have HC376_0:=Aside0.mk hl376_0
        clear hi376_0 hl376_0
        replace p376:=eq_true p376
        replace q376:=eq_true q376
        go_wp2_with (first|(go_at_call 22;(with_reducible refine (thresherref04_One.calls k1 _ _ (rd_L3 l0 x5_1) _ _ (rd_L3 l1 x5_1) true _ ?side1 ?side2 ?side3 ?side4 A7.out).mono ?_);(case side1=>repeat (first|exact HR375_0.out|(with_reducible refine Kd.C_alloc ?_ _)|(with_reducible refine Kd.C_drewN ?_ _)|(with_reducible refine Kd.C_drew ?_)));(case side2=>exact HC375_0.out);(case side3=>repeat (first|exact HR376_0.out|(with_reducible refine Kd.C_alloc ?_ _)|(with_reducible refine Kd.C_drewN ?_ _)|(with_reducible refine Kd.C_drew ?_)));(case side4=>exact HC376_0.out);rintro e w' ⟨rfl,⟨nd,rfl⟩⟩;(try first|exact ⟨rfl,_,World.drewN_drewN _ _ _⟩|exact ⟨rfl,_,Eq.trans (World.drewN_drewN _ _ _) (congrArg (World.drewN _) (Nat.add_assoc _ _ _))⟩)))
        repeat (go_quiet (first|(go_at_call 22;(with_reducible refine (thresherref04_One.calls k1 _ _ (rd_L3 l0 x5_1) _ _ (rd_L3 l1 x5_1) true _ ?side1 ?side2 ?side3 ?side4 A7.out).mono ?_);(case side1=>repeat (first|exact HR375_0.out|(with_reducible refine Kd.C_alloc ?_ _)|(with_reducible refine Kd.C_drewN ?_ _)|(with_reducible refine Kd.C_drew ?_)));(case side2=>exact HC375_0.out);(case side3=>repeat (first|exact HR376_0.out|(with_reducible refine Kd.C_alloc ?_ _)|(with_reducible refine Kd.C_drewN ?_ _)|(with_reducible refine Kd.C_drew ?_)));(case side4=>exact HC376_0.out);rintro e w' ⟨rfl,⟨nd,rfl⟩⟩;(try first|exact ⟨rfl,_,World.drewN_drewN _ _ _⟩|exact ⟨rfl,_,Eq.trans (World.drewN_drewN _ _ _) (congrArg (World.drewN _) (Nat.add_assoc _ _ _))⟩)));try go_wp2_with (first|(go_at_call 22;(with_reducible refine (thresherref04_One.calls k1 _ _ (rd_L3 l0 x5_1) _ _ (rd_L3 l1 x5_1) true _ ?side1 ?side2 ?side3 ?side4 A7.out).mono ?_);(case side1=>repeat (first|exact HR375_0.out|(with_reducible refine Kd.C_alloc ?_ _)|(with_reducible refine Kd.C_drewN ?_ _)|(with_reducible refine Kd.C_drew ?_)));(case side2=>exact HC375_0.out);(case side3=>repeat (first|exact HR376_0.out|(with_reducible refine Kd.C_alloc ?_ _)|(with_reducible refine Kd.C_drewN ?_ _)|(with_reducible refine Kd.C_drew ?_)));(case side4=>exact HC376_0.out);rintro e w' ⟨rfl,⟨nd,rfl⟩⟩;(try first|exact ⟨rfl,_,World.drewN_drewN _ _ _⟩|exact ⟨rfl,_,Eq.trans (World.drewN_drewN _ _ _) (congrArg (World.drewN _) (Nat.add_assoc _ _ _))⟩))))
        go_roundg k1
        case measure=>have:=HK1.out;omega
        case rel=>exact ⟨(wrap64 (x5_1 + 1)),(by first|rfl|(simp;done)|(simp [*];done)),(by first|exact H'|(subst_vars;exact H')),⟨by have:=HK1.out;omega⟩,by repeat (first|exact Drawn0.refl _|apply Drawn0.step)⟩
       ·replace c8:=Bool.eq_false_iff.mpr c8
        subst c8
        have H1 : (some false)=some r:=by rw [if_neg (show ¬ (false=true) by decide)] at H;exact H
        clear H
        have H:=H1
        clear H1
        obtain rfl:=Option.some.inj H
        have p375 : 0≤(x5_1 : Int):=of_decide_eq_true (by first|(with_reducible assumption)|assumption)
        have q375 : x5_1 < (l0.length : Int):=of_decide_eq_true (by first|(with_reducible assumption)|assumption)
        obtain ⟨ad375,A375_0,c375_0,e375,hx375_0,hl375_0,hi375_0⟩:=at_L3 HR0.out x5_1 p375 q375
        cases e375
        have HR375_0:=Aside0.mk hi375_0
        have HC375_0:=Aside0.mk hl375_0
        clear hi375_0 hl375_0
        replace p375:=eq_true p375
        replace q375:=eq_true q375
        have p376 : 0≤(x5_1 : Int):=of_decide_eq_true (by first|(with_reducible assumption)|assumption)
        have q376 : x5_1 < (l1.length : Int):=of_decide_eq_true (by first|(with_reducible assumption)|assumption)
        obtain ⟨ad376,A376_0,c376_0,e376,hx376_0,hl376_0,hi376_0⟩:=at_L3 HR1.out x5_1 p376 q376
        cases e376
        have HR376_0:=Aside0.mk hi376_0
        have HC376_0:=Aside0.mk hl376_0
        clear hi376_0 hl376_0
        replace p376:=eq_true p376
        replace q376:=eq_true q376
        go_wp2_with (first|(go_at_call 22;(with_reducible refine (thresherref04_One.calls k1 _ _ (rd_L3 l0 x5_1) _ _ (rd_L3 l1 x5_1) false _ ?side1 ?side2 ?side3 ?side4 A7.out).mono ?_);(case side1=>repeat (first|exact HR375_0.out|(with_reducible refine Kd.C_alloc ?_ _)|(with_reducible refine Kd.C_drewN ?_ _)|(with_reducible refine Kd.C_drew ?_)));(case side2=>exact HC375_0.out);(case side3=>repeat (first|exact HR376_0.out|(with_reducible refine Kd.C_alloc ?_ _)|(with_reducible refine Kd.C_drewN ?_ _)|(with_reducible refine Kd.C_drew ?_)));(case side4=>exact HC376_0.out);rintro e w' ⟨rfl,⟨nd,rfl⟩⟩;(try first|exact ⟨rfl,_,World.drewN_drewN _ _ _⟩|exact ⟨rfl,_,Eq.trans (World.drewN_drewN _ _ _) (congrArg (World.drewN _) (Nat.add_assoc _ _ _))⟩)))
        repeat (go_quiet (first|(go_at_call 22;(with_reducible refine (thresherref04_One.calls k1 _ _ (rd_L3 l0 x5_1) _ _ (rd_L3 l1 x5_1) false _ ?side1 ?side2 ?side3 ?side4 A7.out).mono ?_);(case side1=>repeat (first|exact HR375_0.out|(with_reducible refine Kd.C_alloc ?_ _)|(with_reducible refine Kd.C_drewN ?_ _)|(with_reducible refine Kd.C_drew ?_)));(case side2=>exact HC375_0.out);(case side3=>repeat (first|exact HR376_0.out|(with_reducible refine Kd.C_alloc ?_ _)|(with_reducible refine Kd.C_drewN ?_ _)|(with_reducible refine Kd.C_drew ?_)));(case side4=>exact HC376_0.out);rintro e w' ⟨rfl,⟨nd,rfl⟩⟩;(try first|exact ⟨rfl,_,World.drewN_drewN _ _ _⟩|exact ⟨rfl,_,Eq.trans (World.drewN_drewN _ _ _) (congrArg (World.drewN _) (Nat.add_assoc _ _ _))⟩)));try go_wp2_with (first|(go_at_call 22;(with_reducible refine (thresherref04_One.calls k1 _ _ (rd_L3 l0 x5_1) _ _ (rd_L3 l1 x5_1) false _ ?side1 ?side2 ?side3 ?side4 A7.out).mono ?_);(case side1=>repeat (first|exact HR375_0.out|(with_reducible refine Kd.C_alloc ?_ _)|(with_reducible refine Kd.C_drewN ?_ _)|(with_reducible refine Kd.C_drew ?_)));(case side2=>exact HC375_0.out);(case side3=>repeat (first|exact HR376_0.out|(with_reducible refine Kd.C_alloc ?_ _)|(with_reducible refine Kd.C_drewN ?_ _)|(with_reducible refine Kd.C_drew ?_)));(case side4=>exact HC376_0.out);rintro e w' ⟨rfl,⟨nd,rfl⟩⟩;(try first|exact ⟨rfl,_,World.drewN_drewN _ _ _⟩|exact ⟨rfl,_,Eq.trans (World.drewN_drewN _ _ _) (congrArg (World.drewN _) (Nat.add_assoc _ _ _))⟩))))
        go_ret
        exact ⟨by first|rfl|(simp;done)|(simp [*];done),by repeat (first|exact Drawn0.refl _|apply Drawn0.step)⟩
      ·rw [if_neg c6] at H
       exact absurd H (by simp)
     ·rw [if_neg c5] at H
      exact absurd H (by simp)
    ·rw [if_neg c4] at H
     have c4b0 : decide (x5_1 < (l0.length : Int))=false:=decide_eq_false c4
     clear c4
     obtain rfl:=Option.some.inj H
     go_wp2
     repeat (go_quiet (fail);try go_wp2)
     go_ret
     exact ⟨by first|rfl|(simp;done)|(simp [*];done),by repeat (first|exact Drawn0.refl _|apply Drawn0.step)⟩
 ·rw [if_neg c3] at H
  have c3b0 : ((l0.length : Int) == (l1.length : Int))=false:=beq_eq_false_iff_ne.mpr c3
  have c3b1 : ((l0.length : Int) != (l1.length : Int))=true:=bne_iff_ne.mpr c3
  have c3b2 : (l0.length == l1.length)=false:=by first|simpa using c3|(simp at c3 ⊢;omega)
  obtain rfl:=Option.some.inj H
  go_enter Try.func19,Try.ntmps19
  go_wp2
  repeat (go_quiet (fail);try go_wp2)
  go_ret
  exact ⟨by first|rfl|(simp;done)|(simp [*];done),by repeat (first|exact Drawn0.refl _|apply Drawn0.step)⟩
def thresherref10_Key.f (l0_0 : List Int) (a0_1 : Int) (a0_2 : Int) (a0_3 : Int) (l1 : List (S45)) : Option ((List (S45))):=(some (([] : List (S45)) : List (S45))).bind fun y379=>(if 0≤a0_1 then (if a0_1≤(l1.length : Int) then ((some (l1.take (a0_1 : Int).toNat : List (S45))).bind fun y382=>(if y379.length + y382.length < 5864062014805 then (some (y379 ++ y382)) else (none))) else (none)) else (none))
set_option maxHeartbeats 8000000 in
set_option maxRecDepth 100000 in
theorem thresherref10_Key.calls (A0_0 : Option Addr) (c0_0 : Nat) (l0_0 : List Int) (a0_1 : Int) (a0_2 : Int) (a0_3 : Int) (A1 : Option Addr) (c1 : Nat) (l1 : List (S45)) (r : List (S45)) (w : World) (hr0_0 : Kd.C (Kd.int .i64) w A0_0 l0_0.length l0_0) (hc0_0 : l0_0.length≤c0_0) (hr1 : Kd.C k45 w A1 l1.length l1) (hc1 : l1.length≤c1) (h : thresherref10_Key.f l0_0 a0_1 a0_2 a0_3 l1=some r) :
  Calls Try.prog 27 #[.agg #[.slice A0_0 l0_0.length c0_0,.int .i64 a0_1,.int .i64 a0_2,.int .i64 a0_3],.slice A1 l1.length c1] w fun e w'=>∃ v0_ : Value,e=.returned (v0_)∧Kd.R k45 45 w' w.heap.size (fun _=>True) v0_ r∧Below w.heap.size w w':=by
 have hu29:=Try.underlying29
 have HR0_0:=Aside0.mk hr0_0
 have HC0_0:=Aside0.mk hc0_0
 clear hr0_0 hc0_0
 have HR1:=Aside0.mk hr1
 have HC1:=Aside0.mk hc1
 clear hr1 hc1
 have HB:=Aside0.mk (Below.refl w.heap.size w)
 have H : ((some (([] : List (S45)) : List (S45))).bind fun y379=>(if 0≤a0_1 then (if a0_1≤(l1.length : Int) then ((some (l1.take (a0_1 : Int).toNat : List (S45))).bind fun y382=>(if y379.length + y382.length < 5864062014805 then (some (y379 ++ y382)) else (none))) else (none)) else (none)))=some r:=h
 clear h
 obtain ⟨y379,hy379⟩ : ∃ y_ : List (S45),y_=(([] : List (S45))):=⟨_,rfl⟩
 replace H : (if 0≤a0_1 then (if a0_1≤(l1.length : Int) then ((some (l1.take (a0_1 : Int).toNat : List (S45))).bind fun y382=>(if y379.length + y382.length < 5864062014805 then (some (y379 ++ y382)) else (none))) else (none)) else (none))=some r:=by first|(rw [hy379];with_reducible exact H)|(have H2_:=(Option.bind_some _ _).symm.trans H;rw [hy379];with_reducible exact H2_)|(have H2_:=(Option.bind_some _ _).symm.trans H;with_reducible exact H2_)|with_reducible exact H|(rw [hy379];exact H)|exact H
 have Ny379:=Aside0.mk hy379
 clear hy379
 by_cases c3 : 0≤a0_1
 ·rw [if_pos c3] at H
  have c3b0:=eq_true c3
  have c3b1 : decide (0≤a0_1)=true:=decide_eq_true c3
  clear c3
  by_cases c4 : a0_1≤(l1.length : Int)
  ·rw [if_pos c4] at H
   have c4b0:=eq_true c4
   have c4b1 : decide (a0_1≤(l1.length : Int))=true:=decide_eq_true c4
   clear c4
   obtain ⟨y382,hy382⟩ : ∃ y_ : List (S45),y_=(l1.take (a0_1 : Int).toNat):=⟨_,rfl⟩
   replace H : (if y379.length + y382.length < 5864062014805 then (some (y379 ++ y382)) else (none))=some r:=by first|(rw [hy382];with_reducible exact H)|(have H2_:=(Option.bind_some _ _).symm.trans H;rw [hy382];with_reducible exact H2_)|(have H2_:=(Option.bind_some _ _).symm.trans H;with_reducible exact H2_)|with_reducible exact H|(rw [hy382];exact H)|exact H
   have Ny382:=Aside0.mk hy382
   clear hy382
   by_cases c5 : y379.length + y382.length < 5864062014805
   ·rw [if_pos c5] at H
    have LMc5:=Aside0.mk c5
    clear c5
    obtain ⟨y386,hy386⟩ : ∃ y_ : List (S45),y_=(y379 ++ y382):=⟨_,rfl⟩
    replace H : (some y386)=some r:=by first|(rw [hy386];with_reducible exact H)|(have H2_:=(Option.bind_some _ _).symm.trans H;rw [hy386];with_reducible exact H2_)|(have H2_:=(Option.bind_some _ _).symm.trans H;with_reducible exact H2_)|with_reducible exact H|(rw [hy386];exact H)|exact H
    have Ny386:=Aside0.mk hy386
    clear hy386
    obtain rfl:=Option.some.inj H
    go_enter Try.func27,Try.ntmps27
    go_wp2_with (first|((with_reducible refine gate_dst (N:=2) rfl ?_);refine box_event ?hg (N:=2) ?hd (cs:=#[.slice A0_0 l0_0.length c0_0,.int .i64 a0_1,.int .i64 a0_2,.int .i64 a0_3]) (t:=29) ?hr ?_;(case hd=>rfl);(case hg=>rfl);(case hr=>first|(go_simp;done)|(go_simp;rfl));intro gb378 hg w6 hbox hb;have n0_:=Aside0.mk (below_step (below_up HB.out) hb);have n1_:=Aside0.mk (hbox);have n2_:=Aside0.mk ((by rw [hg];exact (below_size (below_up HB.out)) : w.heap.size≤gb378));have n3_:=Aside0.mk ((by rw [hg];exact (below_size (below_up HB.out)) : w.heap.size≤gb378));clear HB;have HB:=n0_;have BK378:=n1_;have GW378:=n2_;have GE378:=n3_;clear n0_ n1_ n2_ n3_;clear hb hbox hg)|((with_reducible refine gate_dst (N:=5) rfl ?_);refine Kd.R_lit k45 _ 45 ?hg (N:=5) ?hd (xs:=([] : List (S45))) (inner:=[]) (ok:=fun _=>True) (okp:=fun _=>True) ?hr ?hp (fun _ hk=>hk) trivial (Below.refl _ _) (Nat.le_refl _) (by simp) ?_;(case hd=>rfl);(case hg=>rfl);(case hr=>first|(go_simp;done)|(go_simp;rfl));(case hp=>exact (Reps.none _ _));intro v380 w7 ho8 hb hg_ hnew_;clear hg_ hnew_;(first|rw [← Ny379.out] at ho8|(simp only [Int.reduceToNat] at ho8;rw [← Ny379.out] at ho8));have n0_:=Aside0.mk (Kd.R_lower ho8 (below_size (by repeat (first|(with_reducible first|exact HB.out|apply below_alloc|apply pw_below_drewN|apply below_drew1|refine below_set ?_ GE378.out)|exact HB.out))));have n1_:=Aside0.mk (blk_below (g:=gb378) (o:=.cells #[.slice A0_0 l0_0.length c0_0,.int .i64 a0_1,.int .i64 a0_2,.int .i64 a0_3] 29 (0,0)) (blk_up BK378.out) hb);have n2_:=Aside0.mk (below_step (by repeat (first|(with_reducible first|exact HB.out|apply below_alloc|apply pw_below_drewN|apply below_drew1|refine below_set ?_ GE378.out)|exact HB.out)) hb);clear BK378;clear HB;have HO381:=n0_;have BK378:=n1_;have HB:=n2_;clear n0_ n1_ n2_;clear hb ho8;have hcz9_0 : w7.cell? ⟨gb378,0,none⟩=some (.slice A0_0 l0_0.length c0_0):=(blk_cell BK378.out 0).trans rfl;have hcz9_1 : w7.cell? ⟨gb378,1,none⟩=some (.int .i64 a0_1):=(blk_cell BK378.out 1).trans rfl;have hcz9_2 : w7.cell? ⟨gb378,2,none⟩=some (.int .i64 a0_2):=(blk_cell BK378.out 2).trans rfl;have hcz9_3 : w7.cell? ⟨gb378,3,none⟩=some (.int .i64 a0_3):=(blk_cell BK378.out 3).trans rfl;have hfz9_0:=blk_frozen BK378.out 0;have hfz9_1:=blk_frozen BK378.out 1;have hfz9_2:=blk_frozen BK378.out 2;have hfz9_3:=blk_frozen BK378.out 3;have q10 : (a0_1 : Int)≤((l1.length : Int) : Int):=of_decide_eq_true (by first|(with_reducible assumption)|assumption);obtain ⟨i010,hi010,_,hsz10,_⟩:=info_parts info45;have hroom10 : l1.length≤c1:=HC1.out;have hC10 : Kd.C k45 _ A1 l1.length l1:=HR1.out;have hcut10:=cut_to (P:=Try.prog) 38 45 .i64 Try.underlying38 hi010 A1 l1.length c1 a0_1 (of_decide_eq_true (by first|(with_reducible assumption)|assumption)) q10 hroom10;have hr10:=Kd.C_take (m:=(a0_1 : Int).toNat) hC10 (by omega);have hy10 : y382.length=(a0_1 : Int).toNat:=(by rw [Ny382.out,List.length_take];omega);rw [← Ny382.out] at hr10;rw [← hy10] at hcut10;have HR385:=Aside0.mk hr10;have HC385:=Aside0.mk (show y382.length≤c1 from by omega);clear hr10 hC10 hroom10 hi010 hsz10;have KY10:=Aside0.mk hy10;clear hy10;replace q10:=eq_true q10)|((with_reducible refine gate_builtin (b:=.append) (xs:=#[.tmp 5,.tmp 9]) rfl ?_);at_builtin;refine Kd.R_append_rows k45 (w0:=w) w.heap.size rfl (.tmp 5) (.tmp 9) 38 45 (.agg #[(.int .i64 0),(.string ⟨#[]⟩)]) 24 rfl Try.underlying38 info45 rfl (by decide) (by omega) v380 y379 y382 _ _ _ (fun _=>True) (fun _=>False) rfl rfl ?aO ?aR (fun _ _ h=>h) (fun _ h=>h.elim) ?aF ?aB ?aS ?aL ?_;(case aR=>repeat (first|exact (Kd.C_below HR385.out HB.out)|(with_reducible refine Kd.C_alloc ?_ _)|(with_reducible refine Kd.C_drewN ?_ _)|(with_reducible refine Kd.C_drew ?_)));(case aB=>exact (by repeat (first|(with_reducible first|exact HB.out|apply below_alloc|apply pw_below_drewN|apply below_drew1|refine below_set ?_ GE378.out)|exact HB.out)));(case aF=>exact (fun _ _=>trivial));(case aO=>exact (R_up HO381.out));(case aS=>exact (below_size (by repeat (first|(with_reducible first|exact HB.out|apply below_alloc|apply pw_below_drewN|apply below_drew1|refine below_set ?_ GE378.out)|exact HB.out))));(case aL=>have:=LMc5.out;omega);intro v387 w11 ho hb hg hat;rw [← Ny386.out] at ho;have n0_:=Aside0.mk (blk_grown (g:=gb378) (o:=.cells #[.slice A0_0 l0_0.length c0_0,.int .i64 a0_1,.int .i64 a0_2,.int .i64 a0_3] 29 (0,0)) (blk_up BK378.out) hg (Kd.R_ne HO381.out BK378.out (by decide)));have n1_:=Aside0.mk (hb);have n2_:=Aside0.mk (ho);clear BK378;clear HB;clear HO381;have BK378:=n0_;have HB:=n1_;have HO388:=n2_;clear n0_ n1_ n2_;clear ho hb hg hat))
    go_ret
    exact ⟨_,by first|rfl|(simp [errW_none,errW_some] <;> rfl)|(simp [*,errW_none,errW_some] <;> rfl),by (with_reducible repeat (first|apply Kd.R_alloc|apply Kd.R_drewN|apply Kd.R_drew));exact HO388.out,by repeat (first|(with_reducible first|exact HB.out|apply below_alloc|apply pw_below_drewN|apply below_drew1|refine below_set ?_ GE378.out)|exact HB.out)⟩
   ·rw [if_neg c5] at H
    exact absurd H (by simp)
  ·rw [if_neg c4] at H
   exact absurd H (by simp)
 ·rw [if_neg c3] at H
  exact absurd H (by simp)
def thresherref10_Marks.l0 : Nat→List (List (S45))→List (List (S45))→Int→List Int→Int→Int→Int→Option ((List (List (S45))))
 | 0,_,_,_,_,_,_,_=>none
 | k + 1,x1,x5,x6,x390000,x390001,x390002,x390003=>if x6 < (x1.length : Int) then (if x390003=0 then (none) else (if (Int.tmod x6 x390003)=0 then (if 0≤x6 then ((thresherref10_Key.f x390000 x390001 x390002 x390003 (rd_L3 x1 x6)).bind fun t394=>(if x5.length < 5864062014805 then (thresherref10_Marks.l0 k x1 (x5 ++ [t394]) (wrap64 (x6 + 1)) x390000 x390001 x390002 x390003) else (none))) else (none)) else (thresherref10_Marks.l0 k x1 x5 (wrap64 (x6 + 1)) x390000 x390001 x390002 x390003))) else (some x5)
def thresherref10_Marks.f (k : Nat) (l0_0 : List Int) (a0_1 : Int) (a0_2 : Int) (a0_3 : Int) (l1 : List (List (S45))) : Option ((List (List (S45)))):=thresherref10_Marks.l0 k l1 (([] : List (List (S45)))) 0 l0_0 a0_1 a0_2 a0_3
theorem thresherref10_Marks.mono_l : ∀ k,(∀ y0 y1 y2 y3 y4 y5 y6,LeO (thresherref10_Marks.l0 k y0 y1 y2 y3 y4 y5 y6) (thresherref10_Marks.l0 (k + 1) y0 y1 y2 y3 y4 y5 y6))
 | 0=>fun _ _ _ _ _ _ _ r h=>by simp [thresherref10_Marks.l0] at h
 | k + 1=>by
  have ih0:=thresherref10_Marks.mono_l k
  ·intro y0 y1 y2 y3 y4 y5 y6
   unfold thresherref10_Marks.l0
   repeat' first
   | (with_reducible exact ih0 _ _ _ _ _ _ _)
   | (with_reducible exact LeO.refl _)
   | (with_reducible exact LeO.none _)
   | (with_reducible refine LeO.ite ?_ ?_)
   | (with_reducible refine LeO.bind ?_ (fun _=>?_))
   | exact ih0 _ _ _ _ _ _ _
   | exact LeO.none _
   | refine LeO.ite ?_ ?_
   | refine LeO.bind ?_ (fun _=>?_)
theorem thresherref10_Marks.mono : ∀ a0 a1 a2 a3 a4 k,LeO (thresherref10_Marks.f k a0 a1 a2 a3 a4) (thresherref10_Marks.f (k + 1) a0 a1 a2 a3 a4):=by
 intro a0 a1 a2 a3 a4 k
 have ih0:=thresherref10_Marks.mono_l k
 unfold thresherref10_Marks.f
 repeat' first
   | (with_reducible exact ih0 _ _ _ _ _ _ _)
   | (with_reducible exact LeO.refl _)
   | (with_reducible exact LeO.none _)
   | (with_reducible refine LeO.ite ?_ ?_)
   | (with_reducible refine LeO.bind ?_ (fun _=>?_))
   | exact ih0 _ _ _ _ _ _ _
   | exact LeO.none _
   | refine LeO.ite ?_ ?_
   | refine LeO.bind ?_ (fun _=>?_)
def thresherref10_Marks.T6 : Bool × List (List Nat × List Nat):=(true,[([],[]),([],[]),([],[]),([],[]),([2,3],[2,3]),([4],[4]),([1,5],[1,5]),([6],[6]),([0,7,6],[0,7]),([8,8,0,1,2,3,4,5,6,7,8],[0,8])])
def thresherref10_Marks.B6 : List Nat:=[0,0,0,0,12,28,62,126,255,511]
theorem thresherref10_Marks.tab6 : rtab .any (opsOf Try.f20 6)=thresherref10_Marks.T6:=by kernel_rfl
theorem thresherref10_Marks.bits6 : waitsOk thresherref10_Marks.T6.2 thresherref10_Marks.B6=true:=by kernel_rfl
set_option maxHeartbeats 8000000 in
set_option maxRecDepth 100000 in
theorem thresherref10_Marks.calls (k : Nat) (A0_0 : Option Addr) (c0_0 : Nat) (l0_0 : List Int) (a0_1 : Int) (a0_2 : Int) (a0_3 : Int) (A1 : Option Addr) (c1 : Nat) (l1 : List (List (S45))) (r : List (List (S45))) (w : World) (hr0_0 : Kd.C (Kd.int .i64) w A0_0 l0_0.length l0_0) (hc0_0 : l0_0.length≤c0_0) (hr1 : Kd.C (Kd.slice 45 k45) w A1 l1.length l1) (hc1 : l1.length≤c1) (h : thresherref10_Marks.f k l0_0 a0_1 a0_2 a0_3 l1=some r) :
  Calls Try.prog 20 #[.agg #[.slice A0_0 l0_0.length c0_0,.int .i64 a0_1,.int .i64 a0_2,.int .i64 a0_3],.slice A1 l1.length c1] w fun e w'=>∃ v0_ : Value,e=.returned (v0_)∧Kd.S (Kd.slice 45 k45) 38 w' w.heap.size (fun _=>True) v0_ r∧Below w.heap.size w w':=by
 have hu29:=Try.underlying29
 have HR0_0:=Aside0.mk hr0_0
 have HC0_0:=Aside0.mk hc0_0
 clear hr0_0 hc0_0
 have HR1:=Aside0.mk hr1
 have HC1:=Aside0.mk hc1
 clear hr1 hc1
 have HB:=Aside0.mk (Below.refl w.heap.size w)
 have H : (thresherref10_Marks.l0 k l1 (([] : List (List (S45)))) 0 l0_0 a0_1 a0_2 a0_3)=some r:=h
 clear h
 obtain ⟨y390,hy390⟩ : ∃ y_ : List (List (S45)),y_=(([] : List (List (S45)))):=⟨_,rfl⟩
 replace H : (thresherref10_Marks.l0 k l1 y390 0 l0_0 a0_1 a0_2 a0_3)=some r:=by first|(rw [hy390];with_reducible exact H)|(have H2_:=(Option.bind_some _ _).symm.trans H;rw [hy390];with_reducible exact H2_)|(have H2_:=(Option.bind_some _ _).symm.trans H;with_reducible exact H2_)|with_reducible exact H|(rw [hy390];exact H)|exact H
 have Ny390:=Aside0.mk hy390
 clear hy390
 have H':=Aside0.mk H
 clear H
 go_enter Try.func20,Try.ntmps20
 go_wp2_with (first|((with_reducible refine gate_dst (N:=2) rfl ?_);refine box_event ?hg (N:=2) ?hd (cs:=#[.slice A0_0 l0_0.length c0_0,.int .i64 a0_1,.int .i64 a0_2,.int .i64 a0_3]) (t:=29) ?hr ?_;(case hd=>rfl);(case hg=>rfl);(case hr=>first|(go_simp;done)|(go_simp;rfl));intro gb389 hg w3 hbox hb;have n0_:=Aside0.mk (below_step (below_up HB.out) hb);have n1_:=Aside0.mk (hbox);have n2_:=Aside0.mk ((by rw [hg];exact (below_size (below_up HB.out)) : w.heap.size≤gb389));have n3_:=Aside0.mk ((by rw [hg];exact (below_size (below_up HB.out)) : w.heap.size≤gb389));clear HB;have HB:=n0_;have BK389:=n1_;have GW389:=n2_;have GE389:=n3_;clear n0_ n1_ n2_ n3_;clear hb hbox hg)|((with_reducible refine gate_dst (N:=7) rfl ?_);refine Kd.S_lit (Kd.slice 45 k45) _ 38 ?hg (N:=7) ?hd (xs:=([] : List (List (S45)))) (inner:=[]) (ok:=fun _=>True) (okp:=fun _=>True) ?hr ?hp (fun _ hk=>hk) trivial (Below.refl _ _) (Nat.le_refl _) (by simp) ?_;(case hd=>rfl);(case hg=>rfl);(case hr=>first|(go_simp;done)|(go_simp;rfl));(case hp=>exact (Reps.none _ _));intro v391 w4 ho5 hb hg_ hnew_;clear hg_ hnew_;(first|rw [← Ny390.out] at ho5|(simp only [Int.reduceToNat] at ho5;rw [← Ny390.out] at ho5));have n0_:=Aside0.mk (Kd.S_lower ho5 (below_size (by repeat (first|(with_reducible first|exact HB.out|apply below_alloc|apply pw_below_drewN|apply below_drew1|refine below_set ?_ GE389.out)|exact HB.out))));have n1_:=Aside0.mk (blk_below (g:=gb389) (o:=.cells #[.slice A0_0 l0_0.length c0_0,.int .i64 a0_1,.int .i64 a0_2,.int .i64 a0_3] 29 (0,0)) (blk_up BK389.out) hb);have n2_:=Aside0.mk (below_step (by repeat (first|(with_reducible first|exact HB.out|apply below_alloc|apply pw_below_drewN|apply below_drew1|refine below_set ?_ GE389.out)|exact HB.out)) hb);clear BK389;clear HB;have HO392:=n0_;have BK389:=n1_;have HB:=n2_;clear n0_ n1_ n2_;clear hb ho5))
 go_loopg [5,6] k (fun kq v5 v6 w'=>∃ (x5_1 : List (List (S45))) (x6_1 : Int),v6=.int .i64 x6_1∧Aside0 (thresherref10_Marks.l0 kq l1 x5_1 x6_1 l0_0 a0_1 a0_2 a0_3=some r)∧Aside0 (kq≤k)∧Aside0 (Kd.S (Kd.slice 45 k45) 38 w' w.heap.size (fun _=>True) v5 x5_1)∧Aside0 (w'.heap[gb389]?=some (.cells #[(.slice A0_0 l0_0.length c0_0),.int .i64 a0_1,.int .i64 a0_2,.int .i64 a0_3] 29 (0,0)))∧Aside0 (Below w.heap.size w w'))
 case atStart=>exact ⟨(y390),(0),(by first|rfl|(simp;done)|(simp [*];done)),H',⟨Nat.le_refl _⟩,⟨by (with_reducible repeat (first|apply Kd.S_alloc|apply Kd.S_drewN|apply Kd.S_drew));exact HO392.out⟩,⟨by (with_reducible repeat (first|refine blk_drewN ?_ _|refine blk_drew ?_|refine blk_alloc ?_ _));exact BK389.out⟩,⟨by repeat (first|(with_reducible first|exact HB.out|apply below_alloc|apply pw_below_drewN|apply below_drew1|refine below_set ?_ GE389.out)|exact HB.out)⟩⟩
 case round =>
  clear H'
  try clear c1
  try clear c2
  try clear p2
  obtain ⟨x5_1,x6_1,rfl,HA,HK1,HO_5,BK389,HB⟩:=hrel
  cases gk with
  | zero=>exact absurd HA.out (by simp [thresherref10_Marks.l0])
  | succ k1 =>
   have H:=HA.out
   clear HA
   simp only [thresherref10_Marks.l0] at H
   by_cases c6 : x6_1 < (l1.length : Int)
   ·rw [if_pos c6] at H
    have c6b0 : decide (x6_1 < (l1.length : Int))=true:=decide_eq_true c6
    clear c6
    by_cases c7 : a0_3=0
    ·rw [if_pos c7] at H
     exact absurd H (by simp)
    ·rw [if_neg c7] at H
     have c7b0 : (a0_3 == 0)=false:=beq_eq_false_iff_ne.mpr c7
     have c7b1 : (a0_3 != 0)=true:=bne_iff_ne.mpr c7
     by_cases c8 : (Int.tmod x6_1 a0_3)=0
     ·rw [if_pos c8] at H
      have c8b0 : ((Int.tmod x6_1 a0_3) == 0)=true:=beq_iff_eq.mpr c8
      have c8b1 : ((Int.tmod x6_1 a0_3) != 0)=false:=bne_eq_false_iff_eq.mpr c8
      clear c8
      by_cases c9 : 0≤x6_1
      ·rw [if_pos c9] at H
       have c9b0 : decide (0≤x6_1)=true:=decide_eq_true c9
       clear c9
       replace H:=Option.bind_eq_some_iff.mp H
       obtain ⟨t394,A100,H⟩:=H
       replace H : (if x5_1.length < 5864062014805 then (thresherref10_Marks.l0 k1 l1 (x5_1 ++ [t394]) (wrap64 (x6_1 + 1)) l0_0 a0_1 a0_2 a0_3) else (none))=some r:=H
       have A10:=Aside0.mk A100
       clear A100
       by_cases c11 : x5_1.length < 5864062014805
       ·rw [if_pos c11] at H
        have LMc11:=Aside0.mk c11
        clear c11
        obtain ⟨y397,hy397⟩ : ∃ y_ : List (List (S45)),y_=(x5_1 ++ [t394]):=⟨_,rfl⟩
        replace H : (thresherref10_Marks.l0 k1 l1 y397 (wrap64 (x6_1 + 1)) l0_0 a0_1 a0_2 a0_3)=some r:=by first|(rw [hy397];with_reducible exact H)|(have H2_:=(Option.bind_some _ _).symm.trans H;rw [hy397];with_reducible exact H2_)|(have H2_:=(Option.bind_some _ _).symm.trans H;with_reducible exact H2_)|with_reducible exact H|(rw [hy397];exact H)|exact H
        have Ny397:=Aside0.mk hy397
        clear hy397
        have H':=Aside0.mk H
        clear H
        have hcz12_0 : wr.cell? ⟨gb389,0,none⟩=some (.slice A0_0 l0_0.length c0_0):=(blk_cell BK389.out 0).trans rfl
        have hcz12_1 : wr.cell? ⟨gb389,1,none⟩=some (.int .i64 a0_1):=(blk_cell BK389.out 1).trans rfl
        have hcz12_2 : wr.cell? ⟨gb389,2,none⟩=some (.int .i64 a0_2):=(blk_cell BK389.out 2).trans rfl
        have hcz12_3 : wr.cell? ⟨gb389,3,none⟩=some (.int .i64 a0_3):=(blk_cell BK389.out 3).trans rfl
        have hfz12_0:=blk_frozen BK389.out 0
        have hfz12_1:=blk_frozen BK389.out 1
        have hfz12_2:=blk_frozen BK389.out 2
        have hfz12_3:=blk_frozen BK389.out 3
        try go_wp2
        have n0_:=Aside0.mk (Kd.S_drew HO_5.out)
        have n1_:=Aside0.mk (blk_drew BK389.out)
        have n2_:=Aside0.mk (below_drew1 HB.out)
        clear HO_5
        clear BK389
        clear HB
        have HO_5:=n0_
        have BK389:=n1_
        have HB:=n2_
        clear n0_ n1_ n2_
        have p393 : 0≤(x6_1 : Int):=of_decide_eq_true (by first|(with_reducible assumption)|assumption)
        have q393 : x6_1 < (l1.length : Int):=of_decide_eq_true (by first|(with_reducible assumption)|assumption)
        obtain ⟨ad393,A393_0,c393_0,e393,hx393_0,hl393_0,hi393_0⟩:=at_L3 HR1.out x6_1 p393 q393
        have hw393_0:=hx393_0
        cases e393
        replace hx393_0:=(HB.out.cell (World.block_lt_of_cell? w _ hx393_0)).trans hx393_0
        have HR393_0:=Aside0.mk hi393_0
        have HC393_0:=Aside0.mk hl393_0
        clear hi393_0 hl393_0
        replace p393:=eq_true p393
        replace q393:=eq_true q393
        refine start_ (n:=10) (S:=fun w'=>w'.cell? ⟨gb389,0,none⟩=some (.slice A0_0 l0_0.length c0_0)∧w'.cell? ⟨gb389,1,none⟩=some (.int .i64 a0_1)∧w'.cell? ⟨gb389,2,none⟩=some (.int .i64 a0_2)∧w'.cell? ⟨gb389,3,none⟩=some (.int .i64 a0_3)∧w'.cell? (ad393.add (x6_1).toNat)=some (.slice A393_0 (rd_L3 l1 x6_1).length c393_0)) (ds:=[]) #[false,false,false,false,false,false,false,false,false,false] (by kernel_rfl) rfl rfl ⟨(blk_cell BK389.out 0).trans rfl,(blk_cell BK389.out 1).trans rfl,(blk_cell BK389.out 2).trans rfl,(blk_cell BK389.out 3).trans rfl,((HB.out.cell (World.block_lt_of_cell? w _ hw393_0)).trans hw393_0)⟩ (fun hHeld=>?_);refine with_tabW thresherref10_Marks.tab6 thresherref10_Marks.bits6 (fun HT_ HW_=>?_)
        generalize wr.drew=w13 at HO_5 BK389 HB HR393_0 hx393_0 hHeld ⊢
        refine pure_ (i:=0) (N:=some 19) (v:=?_) (a':=?_) #[true,false,false,false,false,false,false,false,false,false] rfl rfl (any_of HT_.out (by kernel_rfl)) (fun _ _ _ h=>h) (Or.inl ⟨by rfl,?_⟩) ?_ ?_
        rotate_left;(intro w';go_simp;with_reducible rfl);rotate_left;(simp only [Act.put,List.setIfInBounds_toArray,List.set_cons_zero,List.set_cons_succ,i64_w,i32_w];rfl)
        refine pure_ (i:=2) (N:=some 21) (v:=?_) (a':=?_) #[true,false,true,false,false,false,false,false,false,false] rfl rfl (any_of HT_.out (by kernel_rfl)) (fun _ _ _ h=>h) (Or.inl ⟨by rfl,?_⟩) ?_ ?_
        rotate_left;(intro w';go_simp;with_reducible rfl);rotate_left;(simp only [Act.put,List.setIfInBounds_toArray,List.set_cons_zero,List.set_cons_succ,i64_w,i32_w];rfl)
        refine pure_ (i:=3) (N:=some 22) (v:=?_) (a':=?_) #[true,false,true,true,false,false,false,false,false,false] rfl rfl (any_of HT_.out (by kernel_rfl)) (fun _ _ _ h=>h) (Or.inl ⟨by rfl,?_⟩) ?_ ?_
        rotate_left;(intro w';go_simp;with_reducible rfl);rotate_left;(simp only [Act.put,List.setIfInBounds_toArray,List.set_cons_zero,List.set_cons_succ,i64_w,i32_w];rfl)
        refine pure_ (i:=4) (N:=some 23) (v:=?_) (a':=?_) #[true,false,true,true,true,false,false,false,false,false] rfl rfl (any_of HT_.out (by kernel_rfl)) (fun _ _ _ h=>h) (Or.inl ⟨by rfl,?_⟩) ?_ ?_
        rotate_left;(intro w';go_simp;with_reducible rfl);rotate_left;(simp only [Act.put,List.setIfInBounds_toArray,List.set_cons_zero,List.set_cons_succ,i64_w,i32_w];rfl)
        refine take_ (i:=1) (N:=some 20) (v:=?_) (a':=?_) #[true,true,true,true,true,false,false,false,false,false] rfl rfl (take_ofW HT_.out HW_.out (by kernel_rfl)) (fun _ _ _ h=>h) (Or.inl ⟨by rfl,?_⟩) hHeld ?_ ?_
        rotate_left;(rintro w' ⟨s0,s1,s2,s3,s4⟩;go_simp;with_reducible rfl);rotate_left;(simp only [Act.put,List.setIfInBounds_toArray,List.set_cons_zero,List.set_cons_succ,i64_w,i32_w];rfl)
        refine take_ (i:=5) (N:=some 24) (v:=?_) (a':=?_) #[true,true,true,true,true,true,false,false,false,false] rfl rfl (take_ofW HT_.out HW_.out (by kernel_rfl)) (fun _ _ _ h=>h) (Or.inl ⟨by rfl,?_⟩) hHeld ?_ ?_
        rotate_left;(rintro w' ⟨s0,s1,s2,s3,s4⟩;go_simp;with_reducible rfl);rotate_left;(simp only [Act.put,List.setIfInBounds_toArray,List.set_cons_zero,List.set_cons_succ,i64_w,i32_w];rfl)
        refine one_ (i:=6) (N:=some 25) #[true,true,true,true,true,true,true,false,false,false] rfl rfl (one_of HT_.out (by kernel_rfl)) (by decide) (fun K hK=>?_)
        refine goes_ Try.func27 (by kernel_rfl) rfl #[.agg #[.slice A0_0 l0_0.length c0_0,.int .i64 a0_1,.int .i64 a0_2,.int .i64 a0_3],.slice A393_0 (rd_L3 l1 x6_1).length c393_0] (by rfl) rfl rfl (by (try simp only [List.map_toArray,List.map_cons,List.map_nil]);first|done|rfl|(simp only [List.length_drop,List.length_take];rfl)) ?_
        with_reducible refine (thresherref10_Key.calls _ _ l0_0 a0_1 a0_2 a0_3 _ _ (rd_L3 l1 x6_1) t394 _ ?side1 ?side2 ?side3 ?side4 A10.out).mono ?_
        (case side1=>repeat (first|exact (Kd.C_below HR0_0.out HB.out)|(with_reducible refine Kd.C_alloc ?_ _)|(with_reducible refine Kd.C_drewN ?_ _)|(with_reducible refine Kd.C_drew ?_)))
        (case side2=>exact HC0_0.out)
        (case side3=>repeat (first|exact (Kd.C_below HR393_0.out HB.out)|(with_reducible refine Kd.C_alloc ?_ _)|(with_reducible refine Kd.C_drewN ?_ _)|(with_reducible refine Kd.C_drew ?_)))
        (case side4=>exact HC393_0.out)
        rintro e w14 ⟨v395,rfl,ho0,hb⟩
        refine ⟨_,rfl,?_⟩
        have n0_:=Aside0.mk (Kd.S_elder' (S_up HO_5.out) (Kd.R_base ho0) hb)
        have n1_:=Aside0.mk (Kd.R_lower ho0 (below_size (by repeat (first|(with_reducible first|exact HB.out|apply below_alloc|apply pw_below_drewN|apply below_drew1|refine below_set ?_ GE389.out)|exact HB.out))))
        have n2_:=Aside0.mk (blk_below (g:=gb389) (o:=.cells #[.slice A0_0 l0_0.length c0_0,.int .i64 a0_1,.int .i64 a0_2,.int .i64 a0_3] 29 (0,0)) (blk_up BK389.out) hb)
        have n3_:=Aside0.mk (below_step (by repeat (first|(with_reducible first|exact HB.out|apply below_alloc|apply pw_below_drewN|apply below_drew1|refine below_set ?_ GE389.out)|exact HB.out)) hb)
        clear HO_5
        clear BK389
        clear HB
        have HO_5:=n0_
        have HO396:=n1_
        have BK389:=n2_
        have HB:=n3_
        clear n0_ n1_ n2_ n3_
        (try clear hb)
        (try clear hb2)
        (try clear hk)
        (try clear hi)
        (try clear ho0)
        obtain ⟨Ao16,co16,eo16⟩:=Kd.R_slice HO396.out
        (first|subst eo16|(injection eo16 with f1_ f2_ f3_;have f4_:=f1_.symm;have f5_:=f3_.symm;clear f1_ f2_ f3_;subst f4_;subst f5_))
        refine hK.out _ _ ⟨(blk_cell BK389.out 0).trans rfl,(blk_cell BK389.out 1).trans rfl,(blk_cell BK389.out 2).trans rfl,(blk_cell BK389.out 3).trans rfl,((HB.out.cell (World.block_lt_of_cell? w _ hw393_0)).trans hw393_0)⟩ (fun hHeld=>?_)
        clear hK K
        refine norm_ (a':=?_) ?_ ?_
        rotate_left
        ·show Act.put _ (some 25) _=_
         simp only [Act.put,List.setIfInBounds_toArray,List.set_cons_zero,List.set_cons_succ,i64_w,i32_w]
         rfl
        refine one_ (i:=7) (N:=some 26) #[true,true,true,true,true,true,true,true,false,false] rfl rfl (one_of HT_.out (by kernel_rfl)) (by decide) (fun K hK=>?_)
        refine value_ (w1:=?_) (v:=?_) (by rfl) rfl ?_ ?_
        rotate_left 2
        ·go_simp
         constructor
         ·rfl
         ·rfl
        refine hK.out _ _ ⟨(blk_cell (blk_alloc BK389.out _) 0).trans rfl,(blk_cell (blk_alloc BK389.out _) 1).trans rfl,(blk_cell (blk_alloc BK389.out _) 2).trans rfl,(blk_cell (blk_alloc BK389.out _) 3).trans rfl,(World.cell?_alloc_lt _ _ _ (World.block_lt_of_cell? _ _ (((HB.out.cell (World.block_lt_of_cell? w _ hw393_0)).trans hw393_0)))).trans (((HB.out.cell (World.block_lt_of_cell? w _ hw393_0)).trans hw393_0))⟩ (fun hHeld=>?_)
        clear hK K
        refine norm_ (a':=?_) ?_ ?_
        rotate_left
        ·show Act.put _ (some 26) _=_
         simp only [Act.put,List.setIfInBounds_toArray,List.set_cons_zero,List.set_cons_succ,i64_w,i32_w]
         rfl
        refine one_ (i:=8) (N:=some 27) #[true,true,true,true,true,true,true,true,true,false] rfl rfl (one_of HT_.out (by kernel_rfl)) (by decide) (fun K hK=>?_)
        refine Kd.S_append_step (Kd.slice 45 k45) (w0:=w) w.heap.size (by rfl) (.tmp 19) (.tmp 26) 25 38 (.slice none 0 0) 24 rfl Try.underlying25 info38 rfl (by decide) (by omega) u5 x5_1 t394 [.slice Ao16 t394.length co16] (fun _=>True) (fun k_=>some k_=(.slice Ao16 t394.length co16 : Value).ownBlock) rfl rfl ?aP (fun k_ hk_=>((Kd.R_mono (ok':=fun k_=>((fun _=>True)) k_∧some k_≠(u5 : Value).ownBlock) (Kd.R_apart' (HO396.out) (Kd.S_typed HO_5.out) (by decide)) (fun k_ hk=>⟨trivial,hk.2⟩))).1 k_ hk_.symm) ?aF ?aO ?aB ?aS ?aL ?_
        (case aP=>exact Kd.M_row (Kd.R_mono (Kd.R_tight rfl (Kd.R_mono (ok':=fun k_=>((fun _=>True)) k_∧some k_≠(u5 : Value).ownBlock) (Kd.R_apart' (HO396.out) (Kd.S_typed HO_5.out) (by decide)) (fun k_ hk=>⟨trivial,hk.2⟩))) (fun _ h_=>h_)))
        (case aB=>exact (by repeat (first|(with_reducible first|exact HB.out|apply below_alloc|apply pw_below_drewN|apply below_drew1|refine below_set ?_ GE389.out)|exact HB.out)))
        (case aF=>exact (fun _ _=>trivial))
        (case aO=>exact (by (with_reducible repeat (first|apply Kd.S_alloc|apply Kd.S_drewN|apply Kd.S_drew));exact Kd.S_mono HO_5.out (fun k_ hk=>⟨trivial,fun e_=>hk.2 e_⟩)))
        (case aS=>exact (below_size (by repeat (first|(with_reducible first|exact HB.out|apply below_alloc|apply pw_below_drewN|apply below_drew1|refine below_set ?_ GE389.out)|exact HB.out))))
        (case aL=>have:=LMc11.out;omega)
        intro v398 w15 ho hb hg hat
        rw [← Ny397.out] at ho
        have n0_:=Aside0.mk (blk_grown (g:=gb389) (o:=.cells #[.slice A0_0 l0_0.length c0_0,.int .i64 a0_1,.int .i64 a0_2,.int .i64 a0_3] 29 (0,0)) (blk_up BK389.out) hg (Kd.S_ne HO_5.out BK389.out (by decide)))
        have n1_:=Aside0.mk (hb)
        have n2_:=Aside0.mk (ho)
        clear BK389
        clear HB
        clear HO_5
        clear HO396
        have BK389:=n0_
        have HB:=n1_
        have HO399:=n2_
        clear n0_ n1_ n2_
        clear ho hb hg hat
        refine hK.out _ _ ⟨(blk_cell BK389.out 0).trans rfl,(blk_cell BK389.out 1).trans rfl,(blk_cell BK389.out 2).trans rfl,(blk_cell BK389.out 3).trans rfl,((HB.out.cell (World.block_lt_of_cell? w _ hw393_0)).trans hw393_0)⟩ (fun hHeld=>?_)
        clear hK K
        refine norm_ (a':=?_) ?_ ?_
        rotate_left
        ·show Act.put _ (some 27) _=_
         simp only [Act.put,List.setIfInBounds_toArray,List.set_cons_zero,List.set_cons_succ,i64_w,i32_w]
         rfl
        refine pure_ (i:=9) (N:=some 5) (v:=?_) (a':=?_) #[true,true,true,true,true,true,true,true,true,true] rfl rfl (any_of HT_.out (by kernel_rfl)) (fun _ _ _ h=>h) (Or.inl ⟨by rfl,?_⟩) ?_ ?_
        rotate_left;(intro w';go_simp;with_reducible rfl);rotate_left;(simp only [Act.put,List.setIfInBounds_toArray,List.set_cons_zero,List.set_cons_succ,i64_w,i32_w];rfl)
        refine done_ (done_of HT_.out (by kernel_rfl)) ?_
        (try clear hHeld)
        try go_wp2
        go_roundg k1
        case measure=>have:=HK1.out;omega
        case rel=>exact ⟨(y397),(wrap64 (x6_1 + 1)),(by first|rfl|(simp;done)|(simp [*];done)),(by first|exact H'|(subst_vars;exact H')),⟨by have:=HK1.out;omega⟩,⟨by (with_reducible repeat (first|apply Kd.S_alloc|apply Kd.S_drewN|apply Kd.S_drew));exact HO399.out⟩,⟨by (with_reducible repeat (first|refine blk_drewN ?_ _|refine blk_drew ?_|refine blk_alloc ?_ _));exact BK389.out⟩,⟨by repeat (first|(with_reducible first|exact HB.out|apply below_alloc|apply pw_below_drewN|apply below_drew1|refine below_set ?_ GE389.out)|exact HB.out)⟩⟩
       ·rw [if_neg c11] at H
        exact absurd H (by simp)
      ·rw [if_neg c9] at H
       exact absurd H (by simp)
     ·rw [if_neg c8] at H
      have c8b0 : ((Int.tmod x6_1 a0_3) == 0)=false:=beq_eq_false_iff_ne.mpr c8
      have c8b1 : ((Int.tmod x6_1 a0_3) != 0)=true:=bne_iff_ne.mpr c8
      have H':=Aside0.mk H
      clear H
      have hcz17_0 : wr.cell? ⟨gb389,0,none⟩=some (.slice A0_0 l0_0.length c0_0):=(blk_cell BK389.out 0).trans rfl
      have hcz17_1 : wr.cell? ⟨gb389,1,none⟩=some (.int .i64 a0_1):=(blk_cell BK389.out 1).trans rfl
      have hcz17_2 : wr.cell? ⟨gb389,2,none⟩=some (.int .i64 a0_2):=(blk_cell BK389.out 2).trans rfl
      have hcz17_3 : wr.cell? ⟨gb389,3,none⟩=some (.int .i64 a0_3):=(blk_cell BK389.out 3).trans rfl
      have hfz17_0:=blk_frozen BK389.out 0
      have hfz17_1:=blk_frozen BK389.out 1
      have hfz17_2:=blk_frozen BK389.out 2
      have hfz17_3:=blk_frozen BK389.out 3
      go_wp2
      go_roundg k1
      case measure=>have:=HK1.out;omega
      case rel=>exact ⟨(x5_1),(wrap64 (x6_1 + 1)),(by first|rfl|(simp;done)|(simp [*];done)),(by first|exact H'|(subst_vars;exact H')),⟨by have:=HK1.out;omega⟩,⟨by (with_reducible repeat (first|apply Kd.S_alloc|apply Kd.S_drewN|apply Kd.S_drew));exact HO_5.out⟩,⟨by (with_reducible repeat (first|refine blk_drewN ?_ _|refine blk_drew ?_|refine blk_alloc ?_ _));exact BK389.out⟩,⟨by repeat (first|(with_reducible first|exact HB.out|apply below_alloc|apply pw_below_drewN|apply below_drew1|refine below_set ?_ GE389.out)|exact HB.out)⟩⟩
   ·rw [if_neg c6] at H
    have c6b0 : decide (x6_1 < (l1.length : Int))=false:=decide_eq_false c6
    clear c6
    obtain rfl:=Option.some.inj H
    go_wp2
    go_ret
    exact ⟨_,by first|rfl|(simp [errW_none,errW_some] <;> rfl)|(simp [*,errW_none,errW_some] <;> rfl),by (with_reducible repeat (first|apply Kd.S_alloc|apply Kd.S_drewN|apply Kd.S_drew));exact HO_5.out,by repeat (first|(with_reducible first|exact HB.out|apply below_alloc|apply pw_below_drewN|apply below_drew1|refine below_set ?_ GE389.out)|exact HB.out)⟩
def thresherref10_Column.l0 : Nat→List (List (S45))→Int→List (S45)→Int→Option ((List (S45)))
 | 0,_,_,_,_=>none
 | k + 1,x0,x1,x5,x6=>if x6 < (x0.length : Int) then (if x1 < 0 then (some ([] : List (S45))) else (if 0≤x6 then (if x1 ≥ ((rd_L3 x0 x6).length : Int) then (some ([] : List (S45))) else (if 0≤x1 then (if x1 < ((rd_L3 x0 x6).length : Int) then (if x5.length < 5864062014805 then (thresherref10_Column.l0 k x0 x1 (x5 ++ [(⟨(rd_T45 (rd_L3 x0 x6) x1).f0,(rd_T45 (rd_L3 x0 x6) x1).f1⟩ : S45)]) (wrap64 (x6 + 1))) else (none)) else (none)) else (none))) else (none))) else (some x5)
def thresherref10_Column.f (k : Nat) (l0 : List (List (S45))) (a1 : Int) : Option ((List (S45))):=thresherref10_Column.l0 k l0 a1 (([] : List (S45))) 0
theorem thresherref10_Column.mono_l : ∀ k,(∀ y0 y1 y2 y3,LeO (thresherref10_Column.l0 k y0 y1 y2 y3) (thresherref10_Column.l0 (k + 1) y0 y1 y2 y3))
 | 0=>fun _ _ _ _ r h=>by simp [thresherref10_Column.l0] at h
 | k + 1=>by
  have ih0:=thresherref10_Column.mono_l k
  ·intro y0 y1 y2 y3
   unfold thresherref10_Column.l0
   repeat' first
   | (with_reducible exact ih0 _ _ _ _)
   | (with_reducible exact LeO.refl _)
   | (with_reducible exact LeO.none _)
   | (with_reducible refine LeO.ite ?_ ?_)
   | (with_reducible refine LeO.bind ?_ (fun _=>?_))
   | exact ih0 _ _ _ _
   | exact LeO.none _
   | refine LeO.ite ?_ ?_
   | refine LeO.bind ?_ (fun _=>?_)
theorem thresherref10_Column.mono : ∀ a0 a1 k,LeO (thresherref10_Column.f k a0 a1) (thresherref10_Column.f (k + 1) a0 a1):=by
 intro a0 a1 k
 have ih0:=thresherref10_Column.mono_l k
 unfold thresherref10_Column.f
 repeat' first
   | (with_reducible exact ih0 _ _ _ _)
   | (with_reducible exact LeO.refl _)
   | (with_reducible exact LeO.none _)
   | (with_reducible refine LeO.ite ?_ ?_)
   | (with_reducible refine LeO.bind ?_ (fun _=>?_))
   | exact ih0 _ _ _ _
   | exact LeO.none _
   | refine LeO.ite ?_ ?_
   | refine LeO.bind ?_ (fun _=>?_)
set_option maxHeartbeats 8000000 in
set_option maxRecDepth 100000 in
theorem thresherref10_Column.calls (k : Nat) (A0 : Option Addr) (c0 : Nat) (l0 : List (List (S45))) (a1 : Int) (r : List (S45)) (w : World) (hr0 : Kd.C (Kd.slice 45 k45) w A0 l0.length l0) (hc0 : l0.length≤c0) (h : thresherref10_Column.f k l0 a1=some r) :
  Calls Try.prog 21 #[.slice A0 l0.length c0,.int .i64 a1] w fun e w'=>∃ v0_ : Value,e=.returned (v0_)∧Kd.R k45 45 w' w.heap.size (fun _=>True) v0_ r∧Below w.heap.size w w':=by
 have hu45:=Try.underlying45
 have HR0:=Aside0.mk hr0
 have HC0:=Aside0.mk hc0
 clear hr0 hc0
 have HB:=Aside0.mk (Below.refl w.heap.size w)
 have H : (thresherref10_Column.l0 k l0 a1 (([] : List (S45))) 0)=some r:=h
 clear h
 obtain ⟨y400,hy400⟩ : ∃ y_ : List (S45),y_=(([] : List (S45))):=⟨_,rfl⟩
 replace H : (thresherref10_Column.l0 k l0 a1 y400 0)=some r:=by first|(rw [hy400];with_reducible exact H)|(have H2_:=(Option.bind_some _ _).symm.trans H;rw [hy400];with_reducible exact H2_)|(have H2_:=(Option.bind_some _ _).symm.trans H;with_reducible exact H2_)|with_reducible exact H|(rw [hy400];exact H)|exact H
 have Ny400:=Aside0.mk hy400
 clear hy400
 have H':=Aside0.mk H
 clear H
 go_enter Try.func21,Try.ntmps21
 go_wp2_with (first|((with_reducible refine gate_dst (N:=7) rfl ?_);(try (refine gate_guard (by rfl) ?_;dsimp only));refine Kd.R_lit k45 _ 45 ?hg (N:=7) ?hd (xs:=([] : List (S45))) (inner:=[]) (ok:=fun _=>True) (okp:=fun _=>True) ?hr ?hp (fun _ hk=>hk) trivial (Below.refl _ _) (Nat.le_refl _) (by simp) ?_;(case hd=>rfl);(case hg=>rfl);(case hr=>first|(go_simp;done)|(go_simp;rfl));(case hp=>exact (Reps.none _ _));intro v401 w3 ho4 hb hg_ hnew_;clear hg_ hnew_;(first|rw [← Ny400.out] at ho4|(simp only [Int.reduceToNat] at ho4;rw [← Ny400.out] at ho4));have n0_:=Aside0.mk (Kd.R_lower ho4 (below_size (below_up HB.out)));have n1_:=Aside0.mk (below_step (below_up HB.out) hb);clear HB;have HO402:=n0_;have HB:=n1_;clear n0_ n1_;clear hb ho4))
 go_loopg [5,6] k (fun kq v5 v6 w'=>∃ (x5_1 : List (S45)) (x6_1 : Int),v6=.int .i64 x6_1∧Aside0 (thresherref10_Column.l0 kq l0 a1 x5_1 x6_1=some r)∧Aside0 (kq≤k)∧Aside0 (Kd.R k45 45 w' w.heap.size (fun _=>True) v5 x5_1)∧Aside0 (Below w.heap.size w w'))
 case atStart=>exact ⟨(y400),(0),(by first|rfl|(simp;done)|(simp [*];done)),H',⟨Nat.le_refl _⟩,⟨by (with_reducible repeat (first|apply Kd.R_alloc|apply Kd.R_drewN|apply Kd.R_drew));exact HO402.out⟩,⟨by repeat (first|(with_reducible first|exact HB.out|apply below_alloc|apply pw_below_drewN|apply below_drew1)|exact HB.out)⟩⟩
 case round =>
  clear H'
  try clear c2
  try clear p2
  obtain ⟨x5_1,x6_1,rfl,HA,HK1,HO_5,HB⟩:=hrel
  cases gk with
  | zero=>exact absurd HA.out (by simp [thresherref10_Column.l0])
  | succ k1 =>
   have H:=HA.out
   clear HA
   simp only [thresherref10_Column.l0] at H
   by_cases c5 : x6_1 < (l0.length : Int)
   ·rw [if_pos c5] at H
    have c5b0 : decide (x6_1 < (l0.length : Int))=true:=decide_eq_true c5
    clear c5
    by_cases c6 : a1 < 0
    ·rw [if_pos c6] at H
     have c6b0 : decide (a1 < 0)=true:=decide_eq_true c6
     clear c6
     obtain rfl:=Option.some.inj H
     go_wp2
     go_ret
     exact ⟨_,by first|rfl|(simp [errW_none,errW_some] <;> rfl)|(simp [*,errW_none,errW_some] <;> rfl),by first|exact Kd.R_nil _ _ _ _ _|exact Kd.N_nil _ _ _ _ _|exact Kd.V_nil _ _ _ _ _|exact Kd.Q_nil _ _ _ _ _|exact Kd.S_nil _ _ _ _ _,by repeat (first|(with_reducible first|exact HB.out|apply below_alloc|apply pw_below_drewN|apply below_drew1)|exact HB.out)⟩
    ·rw [if_neg c6] at H
     have c6b0 : decide (a1 < 0)=false:=decide_eq_false c6
     clear c6
     by_cases c7 : 0≤x6_1
     ·rw [if_pos c7] at H
      have c7b0 : decide (0≤x6_1)=true:=decide_eq_true c7
      clear c7
      by_cases c8 : a1 ≥ ((rd_L3 l0 x6_1).length : Int)
      ·rw [if_pos c8] at H
       have c8b0 : decide (((rd_L3 l0 x6_1).length : Int)≤a1)=true:=decide_eq_true c8
       clear c8
       obtain rfl:=Option.some.inj H
       have p403 : 0≤(x6_1 : Int):=of_decide_eq_true (by first|(with_reducible assumption)|assumption)
       have q403 : x6_1 < (l0.length : Int):=of_decide_eq_true (by first|(with_reducible assumption)|assumption)
       obtain ⟨ad403,A403_0,c403_0,e403,hx403_0,hl403_0,hi403_0⟩:=at_L3 HR0.out x6_1 p403 q403
       cases e403
       replace hx403_0:=(HB.out.cell (World.block_lt_of_cell? w _ hx403_0)).trans hx403_0
       have HR403_0:=Aside0.mk hi403_0
       have HC403_0:=Aside0.mk hl403_0
       clear hi403_0 hl403_0
       replace p403:=eq_true p403
       replace q403:=eq_true q403
       go_wp2
       go_ret
       exact ⟨_,by first|rfl|(simp [errW_none,errW_some] <;> rfl)|(simp [*,errW_none,errW_some] <;> rfl),by first|exact Kd.R_nil _ _ _ _ _|exact Kd.N_nil _ _ _ _ _|exact Kd.V_nil _ _ _ _ _|exact Kd.Q_nil _ _ _ _ _|exact Kd.S_nil _ _ _ _ _,by repeat (first|(with_reducible first|exact HB.out|apply below_alloc|apply pw_below_drewN|apply below_drew1)|exact HB.out)⟩
      ·rw [if_neg c8] at H
       have c8b0 : decide (((rd_L3 l0 x6_1).length : Int)≤a1)=false:=decide_eq_false c8
       clear c8
       by_cases c9 : 0≤a1
       ·rw [if_pos c9] at H
        have c9b0 : decide (0≤a1)=true:=decide_eq_true c9
        clear c9
        by_cases c10 : a1 < ((rd_L3 l0 x6_1).length : Int)
        ·rw [if_pos c10] at H
         have c10b0 : decide (a1 < ((rd_L3 l0 x6_1).length : Int))=true:=decide_eq_true c10
         clear c10
         by_cases c11 : x5_1.length < 5864062014805
         ·rw [if_pos c11] at H
          have LMc11:=Aside0.mk c11
          clear c11
          obtain ⟨y406,hy406⟩ : ∃ y_ : List (S45),y_=(x5_1 ++ [(⟨(rd_T45 (rd_L3 l0 x6_1) a1).f0,(rd_T45 (rd_L3 l0 x6_1) a1).f1⟩ : S45)]):=⟨_,rfl⟩
          replace H : (thresherref10_Column.l0 k1 l0 a1 y406 (wrap64 (x6_1 + 1)))=some r:=by first|(rw [hy406];with_reducible exact H)|(have H2_:=(Option.bind_some _ _).symm.trans H;rw [hy406];with_reducible exact H2_)|(have H2_:=(Option.bind_some _ _).symm.trans H;with_reducible exact H2_)|with_reducible exact H|(rw [hy406];exact H)|exact H
          have Ny406:=Aside0.mk hy406
          clear hy406
          have H':=Aside0.mk H
          clear H
          have p403 : 0≤(x6_1 : Int):=of_decide_eq_true (by first|(with_reducible assumption)|assumption)
          have q403 : x6_1 < (l0.length : Int):=of_decide_eq_true (by first|(with_reducible assumption)|assumption)
          obtain ⟨ad403,A403_0,c403_0,e403,hx403_0,hl403_0,hi403_0⟩:=at_L3 HR0.out x6_1 p403 q403
          cases e403
          replace hx403_0:=(HB.out.cell (World.block_lt_of_cell? w _ hx403_0)).trans hx403_0
          have HR403_0:=Aside0.mk hi403_0
          have HC403_0:=Aside0.mk hl403_0
          clear hi403_0 hl403_0
          replace p403:=eq_true p403
          replace q403:=eq_true q403
          have p404 : 0≤(x6_1 : Int):=of_decide_eq_true (by first|(with_reducible assumption)|assumption)
          have q404 : x6_1 < (l0.length : Int):=of_decide_eq_true (by first|(with_reducible assumption)|assumption)
          obtain ⟨ad404,A404_0,c404_0,e404,hx404_0,hl404_0,hi404_0⟩:=at_L3 HR0.out x6_1 p404 q404
          obtain rfl : ad403=ad404:=(by injection e404)
          replace hx404_0:=(HB.out.cell (World.block_lt_of_cell? w _ hx404_0)).trans hx404_0
          have HR404_0:=Aside0.mk hi404_0
          have HC404_0:=Aside0.mk hl404_0
          clear hi404_0 hl404_0
          replace p404:=eq_true p404
          replace q404:=eq_true q404
          have ea_:=Option.some.inj (hx403_0.symm.trans hx404_0)
          injection ea_ with ea_ en_ ec_
          subst ea_
          subst ec_
          clear en_
          have p405 : 0≤(a1 : Int):=of_decide_eq_true (by first|(with_reducible assumption)|assumption)
          have q405 : a1 < ((rd_L3 l0 x6_1).length : Int):=of_decide_eq_true (by first|(with_reducible assumption)|assumption)
          obtain ⟨ad405,e405,hx405_0,hx405_1⟩:=at_T45 HR404_0.out a1 p405 q405
          cases e405
          replace hx405_0:=(HB.out.cell (World.block_lt_of_cell? w _ hx405_0)).trans hx405_0
          replace hx405_1:=(HB.out.cell (World.block_lt_of_cell? w _ hx405_1)).trans hx405_1
          replace p405:=eq_true p405
          replace q405:=eq_true q405
          go_wp2_with (first|((with_reducible refine gate_builtin (b:=.append) (xs:=#[.tmp 25,.tmp 33]) rfl ?_);(try (refine gate_guard (by rfl) ?_;dsimp only));at_builtin;refine Kd.R_append k45 (w0:=w) w.heap.size rfl (.tmp 25) (.tmp 33) 37 45 (.agg #[(.int .i64 0),(.string ⟨#[]⟩)]) 24 rfl Try.underlying37 info45 rfl (by decide) (by omega) u5 x5_1 (⟨(rd_T45 (rd_L3 l0 x6_1) a1).f0,(rd_T45 (rd_L3 l0 x6_1) a1).f1⟩ : S45) [.int .i64 ((rd_T45 (rd_L3 l0 x6_1) a1).f0),.string ((rd_T45 (rd_L3 l0 x6_1) a1).f1)] (fun _=>True) (fun _=>False) rfl rfl ?aP (fun _ hk=>hk.elim) ?aF ?aO ?aB ?aS ?aL ?_;(case aP=>exact k45_mkM _ _ _ (⟨(rd_T45 (rd_L3 l0 x6_1) a1).f0,(rd_T45 (rd_L3 l0 x6_1) a1).f1⟩ : S45));(case aB=>exact (below_up HB.out));(case aF=>exact (fun _ _=>trivial));(case aO=>exact (R_up HO_5.out));(case aS=>exact (below_size (below_up HB.out)));(case aL=>have:=LMc11.out;omega);intro v407 w12 ho hb hg hat;rw [← Ny406.out] at ho;have n0_:=Aside0.mk (hb);have n1_:=Aside0.mk (ho);clear HB;clear HO_5;have HB:=n0_;have HO408:=n1_;clear n0_ n1_;clear ho hb hg hat))
          go_roundg k1
          case measure=>have:=HK1.out;omega
          case rel=>exact ⟨(y406),(wrap64 (x6_1 + 1)),(by first|rfl|(simp;done)|(simp [*];done)),(by first|exact H'|(subst_vars;exact H')),⟨by have:=HK1.out;omega⟩,⟨by (with_reducible repeat (first|apply Kd.R_alloc|apply Kd.R_drewN|apply Kd.R_drew));exact HO408.out⟩,⟨by repeat (first|(with_reducible first|exact HB.out|apply below_alloc|apply pw_below_drewN|apply below_drew1)|exact HB.out)⟩⟩
         ·rw [if_neg c11] at H
          exact absurd H (by simp)
        ·rw [if_neg c10] at H
         exact absurd H (by simp)
       ·rw [if_neg c9] at H
        exact absurd H (by simp)
     ·rw [if_neg c7] at H
      exact absurd H (by simp)
   ·rw [if_neg c5] at H
    have c5b0 : decide (x6_1 < (l0.length : Int))=false:=decide_eq_false c5
    clear c5
    obtain rfl:=Option.some.inj H
    go_wp2
    go_ret
    exact ⟨_,by first|rfl|(simp [errW_none,errW_some] <;> rfl)|(simp [*,errW_none,errW_some] <;> rfl),by (with_reducible repeat (first|apply Kd.R_alloc|apply Kd.R_drewN|apply Kd.R_drew));exact HO_5.out,by repeat (first|(with_reducible first|exact HB.out|apply below_alloc|apply pw_below_drewN|apply below_drew1)|exact HB.out)⟩
end Go.Proofs.Ythoelihgpkffiaa.P

