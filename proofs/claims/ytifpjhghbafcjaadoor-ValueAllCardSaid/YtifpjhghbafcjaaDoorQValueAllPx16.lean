/- Texts of ValueAll. Merged: Px16. -/
import Derived.Test.YtifpjhghbafcjaaDoorQValueAllPx0
import Derived.Test.YtifpjhghbafcjaaDoorQValueAllPx14
import Derived.Test.YtifpjhghbafcjaaDoorQValueAllPx15
namespace Go.Proofs.YtifpjhghbafcjaaDoor.P
open Go.RowKit Go.Proofs.YtifpjhghbafcjaaDoorW.PrintWords Go.Proofs.YtifpjhghbafcjaaDoorW.PrintLast Go.Proofs.YtifpjhghbafcjaaDoorW.PrintMore
attribute [local go_sem] max2_int min2_int max_two min_two max_three min_three max_four min_four   -- for this text's walks alone
set_option linter.unusedVariables false
set_option linter.unusedSimpArgs false
mutual
def thresherref03_whole.j0 : Nat→ByteArray→Bool→Option (Int × Bool)
 | 0,_,_=>none
 | k + 1,x0,x13=>if x13=true then (some (0,false)) else (thresherref03_whole.l0 k x0 0 0)
def thresherref03_whole.l0 : Nat→ByteArray→Int→Int→Option (Int × Bool)
 | 0,_,_,_=>none
 | k + 1,x0,x4,x5=>if x5 < (x0.size : Int) then (if 0≤x5 then (if (bt x0 x5) < 48 then (some (0,false)) else (if (bt x0 x5) > 57 then (some (0,false)) else (thresherref03_whole.l0 k x0 (IntKind.u64.wrap ((IntKind.u64.wrap (x4 * 10)) + (((bt x0 x5) - 48) % 256))) (wrap64 (x5 + 1))))) else (none)) else (some (x4,true))
end
def thresherref03_whole.f (k : Nat) (a0 : ByteArray) : Option (Int × Bool):=if (a0.size : Int) < 1 then (thresherref03_whole.j0 k a0 true) else (thresherref03_whole.j0 k a0 (decide ((a0.size : Int) > 20)))
theorem thresherref03_whole.mono_l : ∀ k,(∀ y0 y1,LeO (thresherref03_whole.j0 k y0 y1) (thresherref03_whole.j0 (k + 1) y0 y1))∧(∀ y0 y1 y2,LeO (thresherref03_whole.l0 k y0 y1 y2) (thresherref03_whole.l0 (k + 1) y0 y1 y2))
 | 0=>⟨fun _ _ r h=>by simp [thresherref03_whole.j0] at h,fun _ _ _ r h=>by simp [thresherref03_whole.l0] at h⟩
 | k + 1=>by
  obtain ⟨ih0,ih1⟩:=thresherref03_whole.mono_l k
  refine ⟨?_,?_⟩
  ·intro y0 y1
   unfold thresherref03_whole.j0
   repeat' first
   | (with_reducible exact ih0 _ _)
   | (with_reducible exact ih1 _ _ _)
   | (with_reducible exact LeO.refl _)
   | (with_reducible exact LeO.none _)
   | (with_reducible refine LeO.ite ?_ ?_)
   | (with_reducible refine LeO.bind ?_ (fun _=>?_))
   | exact ih0 _ _
   | exact ih1 _ _ _
   | exact LeO.none _
   | refine LeO.ite ?_ ?_
   | refine LeO.bind ?_ (fun _=>?_)
  ·intro y0 y1 y2
   unfold thresherref03_whole.l0
   repeat' first
   | (with_reducible exact ih0 _ _)
   | (with_reducible exact ih1 _ _ _)
   | (with_reducible exact LeO.refl _)
   | (with_reducible exact LeO.none _)
   | (with_reducible refine LeO.ite ?_ ?_)
   | (with_reducible refine LeO.bind ?_ (fun _=>?_))
   | exact ih0 _ _
   | exact ih1 _ _ _
   | exact LeO.none _
   | refine LeO.ite ?_ ?_
   | refine LeO.bind ?_ (fun _=>?_)
theorem thresherref03_whole.mono : ∀ a0 k,LeO (thresherref03_whole.f k a0) (thresherref03_whole.f (k + 1) a0):=by
 intro a0 k
 obtain ⟨ih0,ih1⟩:=thresherref03_whole.mono_l k
 unfold thresherref03_whole.f
 repeat' first
   | (with_reducible exact ih0 _ _)
   | (with_reducible exact ih1 _ _ _)
   | (with_reducible exact LeO.refl _)
   | (with_reducible exact LeO.none _)
   | (with_reducible refine LeO.ite ?_ ?_)
   | (with_reducible refine LeO.bind ?_ (fun _=>?_))
   | exact ih0 _ _
   | exact ih1 _ _ _
   | exact LeO.none _
   | refine LeO.ite ?_ ?_
   | refine LeO.bind ?_ (fun _=>?_)
set_option maxHeartbeats 8000000 in
set_option maxRecDepth 100000 in
theorem thresherref03_whole.calls (k : Nat) (a0 : ByteArray) (r1 : Int) (r2 : Bool) (w : World) (h : thresherref03_whole.f k a0=some (r1,r2)) :
  Calls Tryd.prog 34 #[.string a0] w fun e w'=>e=.returned (.tuple #[.int .u64 r1,.bool r2])∧Drawn0 w w':=by
 have H : (if (a0.size : Int) < 1 then (thresherref03_whole.j0 k a0 true) else (thresherref03_whole.j0 k a0 (decide ((a0.size : Int) > 20))))=some (r1,r2):=h
 clear h
 have HC2:=Aside0.mk H
 clear H
 go_enter Tryd.func34,Tryd.ntmps34
 go_upto_region 1 with (fail)
 go_cut [13] (fun v13 wc=>∃ (kq : Nat) (x13_1 : Bool),v13=.bool x13_1∧Aside0 (thresherref03_whole.j0 kq a0 x13_1=some (r1,r2))∧Aside0 (kq≤k)∧Drawn0 w wc)
 case first =>
  have H:=HC2.out
  clear HC2
  by_cases c3 : (a0.size : Int) < 1
  ·rw [if_pos c3] at H
   have c3b0 : decide ((a0.size : Int) < 1)=true:=decide_eq_true c3
   have c3b1 : decide (a0.size < 1)=true:=decide_eq_true (by omega)
   clear c3
   (first|rw [c3b0]|(simp only [i64_w,i32_w];rw [c3b0])|skip)
   have H':=Aside0.mk H
   clear H
   go_wp2
   go_meet
   case rel=>exact ⟨_,(true),(by first|rfl|(simp;done)|(simp [*];done)),(by first|exact H'|(subst_vars;exact H')),⟨by first|omega|exact Nat.le_refl _⟩,by repeat (first|exact Drawn0.refl _|apply Drawn0.step)⟩
  ·rw [if_neg c3] at H
   have c3b0 : decide ((a0.size : Int) < 1)=false:=decide_eq_false c3
   have c3b1 : decide (a0.size < 1)=false:=decide_eq_false (by omega)
   clear c3
   (first|rw [c3b0]|(simp only [i64_w,i32_w];rw [c3b0])|skip)
   have H':=Aside0.mk H
   clear H
   go_wp2
   go_meet
   case rel=>exact ⟨_,(decide ((a0.size : Int) > 20)),(by first|rfl|(simp;done)|(simp [*];done)),(by first|exact H'|(subst_vars;exact H')),⟨by first|omega|exact Nat.le_refl _⟩,by repeat (first|exact Drawn0.refl _|apply Drawn0.step)⟩
 case rest =>
  clear HC2
  try clear p2
  try clear c3
  try clear c3b0
  try clear c3b1
  obtain ⟨kq,x13_1,rfl,HA,HJ1,⟨mc1,rfl⟩⟩:=hcut
  cases kq with
  | zero=>exact absurd HA.out (by simp [thresherref03_whole.j0])
  | succ kj1 =>
   have H:=HA.out
   clear HA
   simp only [thresherref03_whole.j0] at H
   by_cases c4 : x13_1=true
   ·subst c4
    have H1 : (some (0,false))=some (r1,r2):=by rw [if_pos rfl] at H;exact H
    clear H
    have H:=H1
    clear H1
    simp only [Option.some.injEq,Prod.mk.injEq] at H
    obtain ⟨rfl,rfl⟩:=H
    go_wp2
    go_ret2
    exact ⟨by first|rfl|(simp;done)|(simp [*];done),by repeat (first|exact Drawn0.refl _|apply Drawn0.step)⟩
   ·replace c4:=Bool.eq_false_iff.mpr c4
    subst c4
    have H1 : (thresherref03_whole.l0 kj1 a0 0 0)=some (r1,r2):=by rw [if_neg (show ¬ (false=true) by decide)] at H;exact H
    clear H
    have H:=H1
    clear H1
    have H':=Aside0.mk H
    clear H
    go_wp2
    go_loopg [4,5] kj1 (fun kq v4 v5 w'=>∃ (x4_2 : Int) (x5_2 : Int),v4=.int .u64 x4_2∧v5=.int .i64 x5_2∧Aside0 (thresherref03_whole.l0 kq a0 x4_2 x5_2=some (r1,r2))∧Aside0 (kq≤kj1)∧Drawn0 w w')
    case atStart=>exact ⟨(0),(0),(by first|rfl|(simp;done)|(simp [*];done)),(by first|rfl|(simp;done)|(simp [*];done)),H',⟨Nat.le_refl _⟩,by repeat (first|exact Drawn0.refl _|apply Drawn0.step)⟩
    case round =>
     clear H'
     try clear c1
     try clear p2
     try clear c3
     try clear c3b0
     try clear c3b1
     try clear c4
     try clear p2
     obtain ⟨x4_2,x5_2,rfl,rfl,HA,HK2,⟨m2,rfl⟩⟩:=hrel
     cases gk with
     | zero=>exact absurd HA.out (by simp [thresherref03_whole.l0])
     | succ k2 =>
      have H:=HA.out
      clear HA
      simp only [thresherref03_whole.l0] at H
      by_cases c5 : x5_2 < (a0.size : Int)
      ·rw [if_pos c5] at H
       have c5b0 : decide (x5_2 < (a0.size : Int))=true:=decide_eq_true c5
       clear c5
       by_cases c6 : 0≤x5_2
       ·rw [if_pos c6] at H
        have c6b0 : decide (0≤x5_2)=true:=decide_eq_true c6
        clear c6
        by_cases c8 : (bt a0 x5_2) < 48
        ·rw [if_pos c8] at H
         have c8b0 : decide ((bt a0 x5_2) < 48)=true:=decide_eq_true c8
         clear c8
         simp only [Option.some.injEq,Prod.mk.injEq] at H
         obtain ⟨rfl,rfl⟩:=H
         have p7 : 0≤(x5_2 : Int):=of_decide_eq_true (by first|(with_reducible assumption)|assumption)
         have q7 : x5_2 < (a0.size : Int):=of_decide_eq_true (by first|(with_reducible assumption)|assumption)
         have hx7:=bt_at a0 x5_2
         replace p7:=eq_true p7
         replace q7:=eq_true q7
         go_wp2
         go_ret2
         exact ⟨by first|rfl|(simp;done)|(simp [*];done),by repeat (first|exact Drawn0.refl _|apply Drawn0.step)⟩
        ·rw [if_neg c8] at H
         have c8b0 : decide ((bt a0 x5_2) < 48)=false:=decide_eq_false c8
         clear c8
         by_cases c10 : (bt a0 x5_2) > 57
         ·rw [if_pos c10] at H
          have c10b0 : decide (57 < (bt a0 x5_2))=true:=decide_eq_true c10
          clear c10
          simp only [Option.some.injEq,Prod.mk.injEq] at H
          obtain ⟨rfl,rfl⟩:=H
          have p7 : 0≤(x5_2 : Int):=of_decide_eq_true (by first|(with_reducible assumption)|assumption)
          have q7 : x5_2 < (a0.size : Int):=of_decide_eq_true (by first|(with_reducible assumption)|assumption)
          have hx7:=bt_at a0 x5_2
          replace p7:=eq_true p7
          replace q7:=eq_true q7
          have p9 : 0≤(x5_2 : Int):=of_decide_eq_true (by first|(with_reducible assumption)|assumption)
          have q9 : x5_2 < (a0.size : Int):=of_decide_eq_true (by first|(with_reducible assumption)|assumption)
          have hx9:=bt_at a0 x5_2
          replace p9:=eq_true p9
          replace q9:=eq_true q9
          go_wp2
          go_ret2
          exact ⟨by first|rfl|(simp;done)|(simp [*];done),by repeat (first|exact Drawn0.refl _|apply Drawn0.step)⟩
         ·rw [if_neg c10] at H
          have c10b0 : decide (57 < (bt a0 x5_2))=false:=decide_eq_false c10
          clear c10
          have H':=Aside0.mk H
          clear H
          have p7 : 0≤(x5_2 : Int):=of_decide_eq_true (by first|(with_reducible assumption)|assumption)
          have q7 : x5_2 < (a0.size : Int):=of_decide_eq_true (by first|(with_reducible assumption)|assumption)
          have hx7:=bt_at a0 x5_2
          replace p7:=eq_true p7
          replace q7:=eq_true q7
          have p9 : 0≤(x5_2 : Int):=of_decide_eq_true (by first|(with_reducible assumption)|assumption)
          have q9 : x5_2 < (a0.size : Int):=of_decide_eq_true (by first|(with_reducible assumption)|assumption)
          have hx9:=bt_at a0 x5_2
          replace p9:=eq_true p9
          replace q9:=eq_true q9
          have p11 : 0≤(x5_2 : Int):=of_decide_eq_true (by first|(with_reducible assumption)|assumption)
          have q11 : x5_2 < (a0.size : Int):=of_decide_eq_true (by first|(with_reducible assumption)|assumption)
          have hx11:=bt_at a0 x5_2
          replace p11:=eq_true p11
          replace q11:=eq_true q11
          go_wp2
          go_roundg k2
          case measure=>have:=HJ1.out;have:=HK2.out;omega
          case rel=>exact ⟨(IntKind.u64.wrap ((IntKind.u64.wrap (x4_2 * 10)) + (((bt a0 x5_2) - 48) % 256))),(wrap64 (x5_2 + 1)),(by first|rfl|(simp;done)|(simp [*];done)),(by first|rfl|(simp;done)|(simp [*];done)),(by first|exact H'|(subst_vars;exact H')),⟨by have:=HJ1.out;have:=HK2.out;omega⟩,by repeat (first|exact Drawn0.refl _|apply Drawn0.step)⟩
       ·rw [if_neg c6] at H
        exact absurd H (by simp)
      ·rw [if_neg c5] at H
       have c5b0 : decide (x5_2 < (a0.size : Int))=false:=decide_eq_false c5
       clear c5
       simp only [Option.some.injEq,Prod.mk.injEq] at H
       obtain ⟨rfl,rfl⟩:=H
       go_wp2
       go_ret2
       exact ⟨by first|rfl|(simp;done)|(simp [*];done),by repeat (first|exact Drawn0.refl _|apply Drawn0.step)⟩
mutual
def thresherref03_Read.j1 : Nat→Int→ByteArray→Bool→Int→ByteArray→Option (Int × ByteArray × Bool)
 | 0,_,_,_,_,_=>none
 | k + 1,x0,x1,x7,x278000,x278001=>(thresherref03_Text.f k x0 x278000 x278001).bind fun t285=>(if x7=true then (if t285.toList=x1.toList then (thresherref03_Read.j2 k (x1.toList == ([] : List UInt8)) x278000 x278001) else (thresherref03_Read.j2 k true x278000 x278001)) else (thresherref03_Read.j2 k true x278000 x278001))
def thresherref03_Read.j2 : Nat→Bool→Int→ByteArray→Option (Int × ByteArray × Bool)
 | 0,_,_,_=>none
 | k + 1,x62,x278000,x278001=>if x62=true then (some (0,(⟨#[]⟩ : ByteArray),false)) else (some (x278000,x278001,true))
def thresherref03_Read.j0 : Nat→Int→ByteArray→Bool→Option (Int × ByteArray × Bool)
 | 0,_,_,_=>none
 | k + 1,x0,x1,x28=>if x28=true then (if 1≤(x1.size : Int) then ((thresherref03_whole.f k (x1.extract 1 x1.size)).bind fun bt281=>(thresherref03_Read.j1 k x0 x1 bt281.2 (wrap64 (IntKind.u64.wrap (-bt281.1))) (⟨#[]⟩ : ByteArray))) else (none)) else ((thresherref03_whole.f k x1).bind fun bt283=>(thresherref03_Read.j1 k x0 x1 bt283.2 (wrap64 (bt283.1)) (⟨#[]⟩ : ByteArray)))
end
def thresherref03_Read.f (k : Nat) (a0 : Int) (a1 : ByteArray) : Option (Int × ByteArray × Bool):=if a0=3 then ((thresherref03_text.f k a1).bind fun bt278=>(thresherref03_Read.j1 k a0 a1 bt278.2.2 bt278.1 bt278.2.1)) else (if (a1.size : Int) > 0 then (if 0 < (a1.size : Int) then (thresherref03_Read.j0 k a0 a1 ((bt a1 0) == 45)) else (none)) else (thresherref03_Read.j0 k a0 a1 false))
theorem thresherref03_Read.mono_l : ∀ k,(∀ y0 y1 y2 y3 y4,LeO (thresherref03_Read.j1 k y0 y1 y2 y3 y4) (thresherref03_Read.j1 (k + 1) y0 y1 y2 y3 y4))∧(∀ y0 y1 y2,LeO (thresherref03_Read.j2 k y0 y1 y2) (thresherref03_Read.j2 (k + 1) y0 y1 y2))∧(∀ y0 y1 y2,LeO (thresherref03_Read.j0 k y0 y1 y2) (thresherref03_Read.j0 (k + 1) y0 y1 y2))
 | 0=>⟨fun _ _ _ _ _ r h=>by simp [thresherref03_Read.j1] at h,fun _ _ _ r h=>by simp [thresherref03_Read.j2] at h,fun _ _ _ r h=>by simp [thresherref03_Read.j0] at h⟩
 | k + 1=>by
  obtain ⟨ih0,ih1,ih2⟩:=thresherref03_Read.mono_l k
  refine ⟨?_,?_,?_⟩
  ·intro y0 y1 y2 y3 y4
   unfold thresherref03_Read.j1
   repeat' first
   | (with_reducible exact ih0 _ _ _ _ _)
   | (with_reducible exact ih1 _ _ _)
   | (with_reducible exact ih2 _ _ _)
   | (with_reducible exact thresherref03_Text.mono _ _ _ _)
   | (with_reducible exact thresherref03_text.mono _ _)
   | (with_reducible exact thresherref03_whole.mono _ _)
   | (with_reducible exact LeO.refl _)
   | (with_reducible exact LeO.none _)
   | (with_reducible refine LeO.ite ?_ ?_)
   | (with_reducible refine LeO.bind ?_ (fun _=>?_))
   | exact ih0 _ _ _ _ _
   | exact ih1 _ _ _
   | exact ih2 _ _ _
   | exact thresherref03_Text.mono _ _ _ _
   | exact thresherref03_text.mono _ _
   | exact thresherref03_whole.mono _ _
   | exact LeO.none _
   | refine LeO.ite ?_ ?_
   | refine LeO.bind ?_ (fun _=>?_)
  ·intro y0 y1 y2
   unfold thresherref03_Read.j2
   repeat' first
   | (with_reducible exact ih0 _ _ _ _ _)
   | (with_reducible exact ih1 _ _ _)
   | (with_reducible exact ih2 _ _ _)
   | (with_reducible exact thresherref03_Text.mono _ _ _ _)
   | (with_reducible exact thresherref03_text.mono _ _)
   | (with_reducible exact thresherref03_whole.mono _ _)
   | (with_reducible exact LeO.refl _)
   | (with_reducible exact LeO.none _)
   | (with_reducible refine LeO.ite ?_ ?_)
   | (with_reducible refine LeO.bind ?_ (fun _=>?_))
   | exact ih0 _ _ _ _ _
   | exact ih1 _ _ _
   | exact ih2 _ _ _
   | exact thresherref03_Text.mono _ _ _ _
   | exact thresherref03_text.mono _ _
   | exact thresherref03_whole.mono _ _
   | exact LeO.none _
   | refine LeO.ite ?_ ?_
   | refine LeO.bind ?_ (fun _=>?_)
  ·intro y0 y1 y2
   unfold thresherref03_Read.j0
   repeat' first
   | (with_reducible exact ih0 _ _ _ _ _)
   | (with_reducible exact ih1 _ _ _)
   | (with_reducible exact ih2 _ _ _)
   | (with_reducible exact thresherref03_Text.mono _ _ _ _)
   | (with_reducible exact thresherref03_text.mono _ _)
   | (with_reducible exact thresherref03_whole.mono _ _)
   | (with_reducible exact LeO.refl _)
   | (with_reducible exact LeO.none _)
   | (with_reducible refine LeO.ite ?_ ?_)
   | (with_reducible refine LeO.bind ?_ (fun _=>?_))
   | exact ih0 _ _ _ _ _
   | exact ih1 _ _ _
   | exact ih2 _ _ _
   | exact thresherref03_Text.mono _ _ _ _
   | exact thresherref03_text.mono _ _
   | exact thresherref03_whole.mono _ _
   | exact LeO.none _
   | refine LeO.ite ?_ ?_
   | refine LeO.bind ?_ (fun _=>?_)
theorem thresherref03_Read.mono : ∀ a0 a1 k,LeO (thresherref03_Read.f k a0 a1) (thresherref03_Read.f (k + 1) a0 a1):=by
 intro a0 a1 k
 obtain ⟨ih0,ih1,ih2⟩:=thresherref03_Read.mono_l k
 unfold thresherref03_Read.f
 repeat' first
   | (with_reducible exact ih0 _ _ _ _ _)
   | (with_reducible exact ih1 _ _ _)
   | (with_reducible exact ih2 _ _ _)
   | (with_reducible exact thresherref03_Text.mono _ _ _ _)
   | (with_reducible exact thresherref03_text.mono _ _)
   | (with_reducible exact thresherref03_whole.mono _ _)
   | (with_reducible exact LeO.refl _)
   | (with_reducible exact LeO.none _)
   | (with_reducible refine LeO.ite ?_ ?_)
   | (with_reducible refine LeO.bind ?_ (fun _=>?_))
   | exact ih0 _ _ _ _ _
   | exact ih1 _ _ _
   | exact ih2 _ _ _
   | exact thresherref03_Text.mono _ _ _ _
   | exact thresherref03_text.mono _ _
   | exact thresherref03_whole.mono _ _
   | exact LeO.none _
   | refine LeO.ite ?_ ?_
   | refine LeO.bind ?_ (fun _=>?_)
set_option maxHeartbeats 8000000 in
set_option maxRecDepth 100000 in
theorem thresherref03_Read.calls (k : Nat) (a0 : Int) (a1 : ByteArray) (r1 : Int) (r2 : ByteArray) (r3 : Bool) (w : World) (h : thresherref03_Read.f k a0 a1=some (r1,r2,r3)) :
  Calls Tryd.prog 19 #[.int .i64 a0,.string a1] w fun e w'=>e=.returned (.tuple #[.agg #[.int .i64 r1,.string r2],.bool r3])∧Below w.heap.size w w':=by
 have hu23:=Tryd.underlying23
 have HB:=Aside0.mk (Below.refl w.heap.size w)
 have H : (if a0=3 then ((thresherref03_text.f k a1).bind fun bt278=>(thresherref03_Read.j1 k a0 a1 bt278.2.2 bt278.1 bt278.2.1)) else (if (a1.size : Int) > 0 then (if 0 < (a1.size : Int) then (thresherref03_Read.j0 k a0 a1 ((bt a1 0) == 45)) else (none)) else (thresherref03_Read.j0 k a0 a1 false)))=some (r1,r2,r3):=h
 clear h
 have HC3:=Aside0.mk H
 clear H
 go_enter Tryd.func19,Tryd.ntmps19
 go_upto_if 15 with (first|((with_reducible refine gate_dst (N:=4) rfl ?_);refine box_event ?hg (N:=4) ?hd (cs:=#[.int .i64 0,.string (⟨#[]⟩ : ByteArray)]) (t:=23) ?hr ?_;(case hd=>rfl);(case hg=>rfl);(case hr=>first|(go_simp;done)|(go_simp;rfl));intro gb276 hg w4 hbox hb;have n0_:=Aside0.mk (below_step (below_up HB.out) hb);have n1_:=Aside0.mk (hbox);have n2_:=Aside0.mk ((by rw [hg];exact (below_size (below_up HB.out)) : w.heap.size≤gb276));have n3_:=Aside0.mk ((by rw [hg];exact (below_size (below_up HB.out)) : w.heap.size≤gb276));clear HB;have HB:=n0_;have BK276:=n1_;have GW276:=n2_;have GE276:=n3_;clear n0_ n1_ n2_ n3_;clear hb hbox hg)|((with_reducible refine gate_dst (N:=6) rfl ?_);refine box_event ?hg (N:=6) ?hd (cs:=#[.int .i64 0,.string (⟨#[]⟩ : ByteArray)]) (t:=23) ?hr ?_;(case hd=>rfl);(case hg=>rfl);(case hr=>first|(go_simp;done)|(go_simp;rfl));intro gb277 hg w5 hbox hb;have n0_:=Aside0.mk (blk_below (g:=gb276) (o:=.cells #[.int .i64 0,.string (⟨#[]⟩ : ByteArray)] 23 (0,0)) (blk_up BK276.out) hb);have n1_:=Aside0.mk (below_step (below_go HB.out) hb);have n2_:=Aside0.mk (hbox);have n3_:=Aside0.mk ((by rw [hg];exact (below_size (below_go HB.out)) : w.heap.size≤gb277));have n4_:=Aside0.mk ((by rw [hg];exact (below_size (below_go HB.out)) : w.heap.size≤gb277));have n5_:=Aside0.mk ((by rw [hg];exact Nat.ne_of_lt (blk_lt (g:=gb276) (o:=.cells #[.int .i64 0,.string (⟨#[]⟩ : ByteArray)] 23 (0,0)) (blk_up BK276.out)) : gb276≠gb277));have n6_:=Aside0.mk ((by rw [hg];exact Nat.ne_of_gt (blk_lt (g:=gb276) (o:=.cells #[.int .i64 0,.string (⟨#[]⟩ : ByteArray)] 23 (0,0)) (blk_up BK276.out)) : gb277≠gb276));clear BK276;clear HB;have BK276:=n0_;have HB:=n1_;have BK277:=n2_;have GW277:=n3_;have GE277:=n4_;have NB276_277:=n5_;have NB277_276:=n6_;clear n0_ n1_ n2_ n3_ n4_ n5_ n6_;clear hb hbox hg;have hnb6:=NB277_276.out;have hnc6:=NB276_277.out;have hcz7_0 : w5.cell? ⟨gb277,0,none⟩=some (.int .i64 0):=(blk_cell BK277.out 0).trans rfl;have hcz7_1 : w5.cell? ⟨gb277,1,none⟩=some (.string (⟨#[]⟩ : ByteArray)):=(blk_cell BK277.out 1).trans rfl;have hfz7_0:=blk_frozen BK277.out 0;have hfz7_1:=blk_frozen BK277.out 1))
 (try simp only [Act.put,List.setIfInBounds_toArray,List.set_cons_zero,List.set_cons_succ])
 go_cut [7] (fun v7 wc=>∃ (kq : Nat) (x7_2 : Bool) (x278000_2 : Int) (x278001_2 : ByteArray),v7=.bool x7_2∧Aside0 (thresherref03_Read.j1 kq a0 a1 x7_2 x278000_2 x278001_2=some (r1,r2,r3))∧Aside0 (kq≤k)∧Aside0 (wc.heap[gb276]?=some (.cells #[.int .i64 0,.string (⟨#[]⟩ : ByteArray)] 23 (0,0)))∧Aside0 (wc.heap[gb277]?=some (.cells #[.int .i64 x278000_2,.string x278001_2] 23 (0,0)))∧Aside0 (Below w.heap.size w wc))
 case first =>
  have H:=HC3.out
  clear HC3
  by_cases c8 : a0=3
  ·rw [if_pos c8] at H
   have c8b0 : (a0 == 3)=true:=beq_iff_eq.mpr c8
   have c8b1 : (a0 != 3)=false:=bne_eq_false_iff_eq.mpr c8
   clear c8
   (first|rw [c8b0]|(simp only [i64_w,i32_w];rw [c8b0])|skip)
   replace H:=Option.bind_eq_some_iff.mp H
   obtain ⟨⟨t278,t279,t280⟩,A90,H⟩:=H
   replace H : (thresherref03_Read.j1 k a0 a1 t280 t278 t279)=some (r1,r2,r3):=H
   have A9:=Aside0.mk A90
   clear A90
   have H':=Aside0.mk H
   clear H
   go_wp2_with (first|((with_reducible refine gate_callee (f:=33) rfl ?_);refine goesL_ (some 18) rfl rfl Tryd.func33 (by kernel_rfl) rfl #[.string a1] rfl (by (try simp only [List.map_toArray,List.map_cons,List.map_nil]);first|done|rfl|(simp only [List.length_drop,List.length_take];rfl)) ?_;(with_reducible refine (thresherref03_text.calls k a1 t278 t279 t280 _ A9.out).mono ?_);rintro e w10 ⟨rfl,hb⟩;refine ⟨_,rfl,?_⟩;have n0_:=Aside0.mk (blk_below (g:=gb276) (o:=.cells #[.int .i64 0,.string (⟨#[]⟩ : ByteArray)] 23 (0,0)) (by (with_reducible repeat (first|refine blk_drewN ?_ _|refine blk_drew ?_|refine blk_alloc ?_ _));refine blk_far ?_ NB276_277.out _;(with_reducible repeat (first|refine blk_drewN ?_ _|refine blk_drew ?_|refine blk_alloc ?_ _));refine blk_far ?_ NB276_277.out _;(with_reducible repeat (first|refine blk_drewN ?_ _|refine blk_drew ?_|refine blk_alloc ?_ _));exact BK276.out) hb);have n1_:=Aside0.mk (blk_below (g:=gb277) (o:=.cells #[.int .i64 0,.string (⟨#[]⟩ : ByteArray)] 23 (0,0)) (by (with_reducible repeat (first|refine blk_drewN ?_ _|refine blk_drew ?_|refine blk_alloc ?_ _));refine blk_put (cs:=#[.int .i64 0,.string (⟨#[]⟩ : ByteArray)]) ?_ 1 _ rfl;(with_reducible repeat (first|refine blk_drewN ?_ _|refine blk_drew ?_|refine blk_alloc ?_ _));refine blk_put (cs:=#[.int .i64 0,.string (⟨#[]⟩ : ByteArray)]) ?_ 0 _ rfl;(with_reducible repeat (first|refine blk_drewN ?_ _|refine blk_drew ?_|refine blk_alloc ?_ _));exact BK277.out) hb);have n2_:=Aside0.mk (below_step (below_go HB.out) hb);clear BK276;clear BK277;clear HB;have BK276:=n0_;have BK277:=n1_;have HB:=n2_;clear n0_ n1_ n2_;(try clear hb);(try clear hb2);(try clear hk);(try clear hi);have hnb11:=NB277_276.out;have hnc11:=NB276_277.out;have hcz12_0 : w10.cell? ⟨gb277,0,none⟩=some (.int .i64 0):=(blk_cell BK277.out 0).trans rfl;have hcz12_1 : w10.cell? ⟨gb277,1,none⟩=some (.string (⟨#[]⟩ : ByteArray)):=(blk_cell BK277.out 1).trans rfl;have hfz12_0:=blk_frozen BK277.out 0;have hfz12_1:=blk_frozen BK277.out 1))
   go_meet
   case rel=>exact ⟨_,(t280),(t278),(t279),(by first|rfl|(simp;done)|(simp [*];done)),(by first|exact H'|(subst_vars;exact H')),⟨by first|omega|exact Nat.le_refl _⟩,⟨by (with_reducible repeat (first|refine blk_drewN ?_ _|refine blk_drew ?_|refine blk_alloc ?_ _));refine blk_far ?_ NB276_277.out _;(with_reducible repeat (first|refine blk_drewN ?_ _|refine blk_drew ?_|refine blk_alloc ?_ _));refine blk_far ?_ NB276_277.out _;(with_reducible repeat (first|refine blk_drewN ?_ _|refine blk_drew ?_|refine blk_alloc ?_ _));exact BK276.out⟩,⟨by (with_reducible repeat (first|refine blk_drewN ?_ _|refine blk_drew ?_|refine blk_alloc ?_ _));refine blk_put (cs:=#[.int .i64 t278,.string (⟨#[]⟩ : ByteArray)]) ?_ 1 _ rfl;(with_reducible repeat (first|refine blk_drewN ?_ _|refine blk_drew ?_|refine blk_alloc ?_ _));refine blk_put (cs:=#[.int .i64 0,.string (⟨#[]⟩ : ByteArray)]) ?_ 0 _ rfl;(with_reducible repeat (first|refine blk_drewN ?_ _|refine blk_drew ?_|refine blk_alloc ?_ _));exact BK277.out⟩,⟨by repeat (first|(with_reducible first|exact HB.out|apply below_alloc|apply pw_below_drewN|apply below_drew1|refine below_set ?_ GE276.out|refine below_set ?_ GE277.out)|exact HB.out)⟩⟩
  ·rw [if_neg c8] at H
   have c8b0 : (a0 == 3)=false:=beq_eq_false_iff_ne.mpr c8
   have c8b1 : (a0 != 3)=true:=bne_iff_ne.mpr c8
   (first|rw [c8b0]|(simp only [i64_w,i32_w];rw [c8b0])|skip)
   have HC13:=Aside0.mk H
   clear H
   go_upto_region 5 with (fail)
   go_cut [28] (fun v28 wc=>∃ (kq : Nat) (x28_12 : Bool),v28=.bool x28_12∧Aside0 (thresherref03_Read.j0 kq a0 a1 x28_12=some (r1,r2,r3))∧Aside0 (kq≤k)∧Aside0 (wc.heap[gb276]?=some (.cells #[.int .i64 0,.string (⟨#[]⟩ : ByteArray)] 23 (0,0)))∧Aside0 (wc.heap[gb277]?=some (.cells #[.int .i64 0,.string (⟨#[]⟩ : ByteArray)] 23 (0,0)))∧Aside0 (Below w.heap.size w wc))
   case first =>
    have H:=HC13.out
    clear HC13
    by_cases c14 : (a1.size : Int) > 0
    ·rw [if_pos c14] at H
     have c14b0 : decide (0 < (a1.size : Int))=true:=decide_eq_true c14
     have c14b1 : decide (0 < a1.size)=true:=decide_eq_true (by omega)
     clear c14
     (first|rw [c14b0]|(simp only [i64_w,i32_w];rw [c14b0])|skip)
     by_cases c15 : 0 < (a1.size : Int)
     ·rw [if_pos c15] at H
      have c15b0 : decide (0 < (a1.size : Int))=true:=decide_eq_true c15
      have c15b1 : decide (0 < a1.size)=true:=decide_eq_true (by omega)
      clear c15
      have H':=Aside0.mk H
      clear H
      have p16 : 0≤(0 : Int):=(by omega)
      have q16 : 0 < a1.size:=(by have : (0 : Int) < (a1.size : Int):=of_decide_eq_true (by first|(with_reducible assumption)|assumption);omega)
      have hx16 : ∀ h : 0 < a1.size,((a1[0]'h).toNat : Int)=bt a1 0:=bt_at a1 0
      clear p16
      have qi16 : (0 < (a1.size : Int))=True:=eq_true (of_decide_eq_true (by first|(with_reducible assumption)|assumption))
      replace q16:=eq_true q16
      go_wp2
      go_meet
      case rel=>exact ⟨_,(((bt a1 0) == 45)),(by first|rfl|(simp;done)|(simp [*];done)),(by first|exact H'|(subst_vars;exact H')),⟨by first|omega|exact Nat.le_refl _⟩,⟨by (with_reducible repeat (first|refine blk_drewN ?_ _|refine blk_drew ?_|refine blk_alloc ?_ _));refine blk_far ?_ NB276_277.out _;(with_reducible repeat (first|refine blk_drewN ?_ _|refine blk_drew ?_|refine blk_alloc ?_ _));refine blk_far ?_ NB276_277.out _;(with_reducible repeat (first|refine blk_drewN ?_ _|refine blk_drew ?_|refine blk_alloc ?_ _));exact BK276.out⟩,⟨by (with_reducible repeat (first|refine blk_drewN ?_ _|refine blk_drew ?_|refine blk_alloc ?_ _));refine blk_put (cs:=#[.int .i64 0,.string (⟨#[]⟩ : ByteArray)]) ?_ 1 _ rfl;(with_reducible repeat (first|refine blk_drewN ?_ _|refine blk_drew ?_|refine blk_alloc ?_ _));refine blk_put (cs:=#[.int .i64 0,.string (⟨#[]⟩ : ByteArray)]) ?_ 0 _ rfl;(with_reducible repeat (first|refine blk_drewN ?_ _|refine blk_drew ?_|refine blk_alloc ?_ _));exact BK277.out⟩,⟨by repeat (first|(with_reducible first|exact HB.out|apply below_alloc|apply pw_below_drewN|apply below_drew1|refine below_set ?_ GE276.out|refine below_set ?_ GE277.out)|exact HB.out)⟩⟩
     ·rw [if_neg c15] at H
      exact absurd H (by simp)
    ·rw [if_neg c14] at H
     have c14b0 : decide (0 < (a1.size : Int))=false:=decide_eq_false c14
     have c14b1 : decide (0 < a1.size)=false:=decide_eq_false (by omega)
     clear c14
     (first|rw [c14b0]|(simp only [i64_w,i32_w];rw [c14b0])|skip)
     have H':=Aside0.mk H
     clear H
     go_wp2
     go_meet
     case rel=>exact ⟨_,(false),(by first|rfl|(simp;done)|(simp [*];done)),(by first|exact H'|(subst_vars;exact H')),⟨by first|omega|exact Nat.le_refl _⟩,⟨by (with_reducible repeat (first|refine blk_drewN ?_ _|refine blk_drew ?_|refine blk_alloc ?_ _));refine blk_far ?_ NB276_277.out _;(with_reducible repeat (first|refine blk_drewN ?_ _|refine blk_drew ?_|refine blk_alloc ?_ _));refine blk_far ?_ NB276_277.out _;(with_reducible repeat (first|refine blk_drewN ?_ _|refine blk_drew ?_|refine blk_alloc ?_ _));exact BK276.out⟩,⟨by (with_reducible repeat (first|refine blk_drewN ?_ _|refine blk_drew ?_|refine blk_alloc ?_ _));refine blk_put (cs:=#[.int .i64 0,.string (⟨#[]⟩ : ByteArray)]) ?_ 1 _ rfl;(with_reducible repeat (first|refine blk_drewN ?_ _|refine blk_drew ?_|refine blk_alloc ?_ _));refine blk_put (cs:=#[.int .i64 0,.string (⟨#[]⟩ : ByteArray)]) ?_ 0 _ rfl;(with_reducible repeat (first|refine blk_drewN ?_ _|refine blk_drew ?_|refine blk_alloc ?_ _));exact BK277.out⟩,⟨by repeat (first|(with_reducible first|exact HB.out|apply below_alloc|apply pw_below_drewN|apply below_drew1|refine below_set ?_ GE276.out|refine below_set ?_ GE277.out)|exact HB.out)⟩⟩
   case rest =>
    clear HC13
    try clear c1
    try clear p1
    try clear q1
    try clear hx1
    try clear qi1
    try clear p2
    try clear c3
    try clear c6
    try clear c8
    try clear c8b0
    try clear c8b1
    try clear c11
    try clear c14
    try clear c14b0
    try clear c14b1
    try clear c15
    try clear c15b0
    try clear c15b1
    try clear p16
    try clear q16
    try clear hx16
    try clear qi16
    try clear hcz12_0
    try clear hcz12_1
    try clear hcz7_0
    try clear hcz7_1
    try clear hfz12_0
    try clear hfz12_1
    try clear hfz7_0
    try clear hfz7_1
    try clear p16
    try clear q16
    obtain ⟨kq,x28_12,rfl,HA,HJ12,BK276,BK277,HB⟩:=hcut
    cases kq with
    | zero=>exact absurd HA.out (by simp [thresherref03_Read.j0])
    | succ kj12 =>
     have H:=HA.out
     clear HA
     simp only [thresherref03_Read.j0] at H
     by_cases c17 : x28_12=true
     ·subst c17
      have H1 : (if 1≤(a1.size : Int) then ((thresherref03_whole.f kj12 (a1.extract 1 a1.size)).bind fun bt281=>(thresherref03_Read.j1 kj12 a0 a1 bt281.2 (wrap64 (IntKind.u64.wrap (-bt281.1))) (⟨#[]⟩ : ByteArray))) else (none))=some (r1,r2,r3):=by rw [if_pos rfl] at H;exact H
      clear H
      have H:=H1
      clear H1
      by_cases c18 : 1≤(a1.size : Int)
      ·rw [if_pos c18] at H
       have c18b0:=eq_true c18
       have c18b1 : decide (1≤(a1.size : Int))=true:=decide_eq_true c18
       clear c18
       replace H:=Option.bind_eq_some_iff.mp H
       obtain ⟨⟨t281,t282⟩,A190,H⟩:=H
       replace H : (thresherref03_Read.j1 kj12 a0 a1 t282 (wrap64 (IntKind.u64.wrap (-t281))) (⟨#[]⟩ : ByteArray))=some (r1,r2,r3):=H
       have A19:=Aside0.mk A190
       clear A190
       have H':=Aside0.mk H
       clear H
       go_wp2_with (first|((with_reducible refine gate_callee (f:=34) rfl ?_);refine goesL_ (some 32) rfl rfl Tryd.func34 (by kernel_rfl) rfl #[.string (a1.extract 1 a1.size)] rfl (by (try simp only [List.map_toArray,List.map_cons,List.map_nil]);first|done|rfl|(simp only [List.length_drop,List.length_take];rfl)) ?_;(with_reducible refine (thresherref03_whole.calls kj12 (a1.extract 1 a1.size) t281 t282 _ A19.out).mono ?_);rintro e w' ⟨rfl,⟨nd,rfl⟩⟩;refine ⟨_,rfl,?_⟩;(try (rw [drewN_self wc];generalize hq_ : World.drewN wc _=wc;have n0_ : Aside0 (wc.heap[gb276]?=some (.cells #[.int .i64 0,.string (⟨#[]⟩ : ByteArray)] 23 (0,0))):=⟨by rw [← hq_];exact (blk_up BK276.out)⟩;have n1_ : Aside0 (wc.heap[gb277]?=some (.cells #[.int .i64 0,.string (⟨#[]⟩ : ByteArray)] 23 (0,0))):=⟨by rw [← hq_];exact (blk_up BK277.out)⟩;have n2_ : Aside0 (Below w.heap.size w wc):=⟨by rw [← hq_];exact (below_go HB.out)⟩;clear BK276 BK277 HB hq_;have BK276:=n0_;have BK277:=n1_;have HB:=n2_;clear n0_ n1_ n2_));have hnb20:=NB277_276.out;have hnc20:=NB276_277.out;have hcz21_0 : wc.cell? ⟨gb277,0,none⟩=some (.int .i64 0):=(blk_cell BK277.out 0).trans rfl;have hcz21_1 : wc.cell? ⟨gb277,1,none⟩=some (.string (⟨#[]⟩ : ByteArray)):=(blk_cell BK277.out 1).trans rfl;have hfz21_0:=blk_frozen BK277.out 0;have hfz21_1:=blk_frozen BK277.out 1))
       go_meet
       case rel=>exact ⟨_,(t282),(wrap64 (IntKind.u64.wrap (-t281))),((⟨#[]⟩ : ByteArray)),(by first|rfl|(simp;done)|(simp [*];done)),(by first|exact H'|(subst_vars;exact H')),⟨by have:=HJ12.out;first|omega|exact Nat.le_refl _⟩,⟨by (with_reducible repeat (first|refine blk_drewN ?_ _|refine blk_drew ?_|refine blk_alloc ?_ _));refine blk_far ?_ NB276_277.out _;(with_reducible repeat (first|refine blk_drewN ?_ _|refine blk_drew ?_|refine blk_alloc ?_ _));refine blk_far ?_ NB276_277.out _;(with_reducible repeat (first|refine blk_drewN ?_ _|refine blk_drew ?_|refine blk_alloc ?_ _));exact BK276.out⟩,⟨by (with_reducible repeat (first|refine blk_drewN ?_ _|refine blk_drew ?_|refine blk_alloc ?_ _));refine blk_put (cs:=#[.int .i64 (wrap64 (IntKind.u64.wrap (-t281))),.string (⟨#[]⟩ : ByteArray)]) ?_ 1 _ rfl;(with_reducible repeat (first|refine blk_drewN ?_ _|refine blk_drew ?_|refine blk_alloc ?_ _));refine blk_put (cs:=#[.int .i64 0,.string (⟨#[]⟩ : ByteArray)]) ?_ 0 _ rfl;(with_reducible repeat (first|refine blk_drewN ?_ _|refine blk_drew ?_|refine blk_alloc ?_ _));exact BK277.out⟩,⟨by repeat (first|(with_reducible first|exact HB.out|apply below_alloc|apply pw_below_drewN|apply below_drew1|refine below_set ?_ GE276.out|refine below_set ?_ GE277.out)|exact HB.out)⟩⟩
      ·rw [if_neg c18] at H
       exact absurd H (by simp)
     ·replace c17:=Bool.eq_false_iff.mpr c17
      subst c17
      have H1 : ((thresherref03_whole.f kj12 a1).bind fun bt283=>(thresherref03_Read.j1 kj12 a0 a1 bt283.2 (wrap64 (bt283.1)) (⟨#[]⟩ : ByteArray)))=some (r1,r2,r3):=by rw [if_neg (show ¬ (false=true) by decide)] at H;exact H
      clear H
      have H:=H1
      clear H1
      replace H:=Option.bind_eq_some_iff.mp H
      obtain ⟨⟨t283,t284⟩,A220,H⟩:=H
      replace H : (thresherref03_Read.j1 kj12 a0 a1 t284 (wrap64 (t283)) (⟨#[]⟩ : ByteArray))=some (r1,r2,r3):=H
      have A22:=Aside0.mk A220
      clear A220
      have H':=Aside0.mk H
      clear H
      go_wp2_with (first|((with_reducible refine gate_callee (f:=34) rfl ?_);refine goesL_ (some 42) rfl rfl Tryd.func34 (by kernel_rfl) rfl #[.string a1] rfl (by (try simp only [List.map_toArray,List.map_cons,List.map_nil]);first|done|rfl|(simp only [List.length_drop,List.length_take];rfl)) ?_;(with_reducible refine (thresherref03_whole.calls kj12 a1 t283 t284 _ A22.out).mono ?_);rintro e w' ⟨rfl,⟨nd,rfl⟩⟩;refine ⟨_,rfl,?_⟩;(try (rw [drewN_self wc];generalize hq_ : World.drewN wc _=wc;have n0_ : Aside0 (wc.heap[gb276]?=some (.cells #[.int .i64 0,.string (⟨#[]⟩ : ByteArray)] 23 (0,0))):=⟨by rw [← hq_];exact (blk_up BK276.out)⟩;have n1_ : Aside0 (wc.heap[gb277]?=some (.cells #[.int .i64 0,.string (⟨#[]⟩ : ByteArray)] 23 (0,0))):=⟨by rw [← hq_];exact (blk_up BK277.out)⟩;have n2_ : Aside0 (Below w.heap.size w wc):=⟨by rw [← hq_];exact (below_go HB.out)⟩;clear BK276 BK277 HB hq_;have BK276:=n0_;have BK277:=n1_;have HB:=n2_;clear n0_ n1_ n2_));have hnb23:=NB277_276.out;have hnc23:=NB276_277.out;have hcz24_0 : wc.cell? ⟨gb277,0,none⟩=some (.int .i64 0):=(blk_cell BK277.out 0).trans rfl;have hcz24_1 : wc.cell? ⟨gb277,1,none⟩=some (.string (⟨#[]⟩ : ByteArray)):=(blk_cell BK277.out 1).trans rfl;have hfz24_0:=blk_frozen BK277.out 0;have hfz24_1:=blk_frozen BK277.out 1))
      go_meet
      case rel=>exact ⟨_,(t284),(wrap64 (t283)),((⟨#[]⟩ : ByteArray)),(by first|rfl|(simp;done)|(simp [*];done)),(by first|exact H'|(subst_vars;exact H')),⟨by have:=HJ12.out;first|omega|exact Nat.le_refl _⟩,⟨by (with_reducible repeat (first|refine blk_drewN ?_ _|refine blk_drew ?_|refine blk_alloc ?_ _));refine blk_far ?_ NB276_277.out _;(with_reducible repeat (first|refine blk_drewN ?_ _|refine blk_drew ?_|refine blk_alloc ?_ _));refine blk_far ?_ NB276_277.out _;(with_reducible repeat (first|refine blk_drewN ?_ _|refine blk_drew ?_|refine blk_alloc ?_ _));exact BK276.out⟩,⟨by (with_reducible repeat (first|refine blk_drewN ?_ _|refine blk_drew ?_|refine blk_alloc ?_ _));refine blk_put (cs:=#[.int .i64 (wrap64 (t283)),.string (⟨#[]⟩ : ByteArray)]) ?_ 1 _ rfl;(with_reducible repeat (first|refine blk_drewN ?_ _|refine blk_drew ?_|refine blk_alloc ?_ _));refine blk_put (cs:=#[.int .i64 0,.string (⟨#[]⟩ : ByteArray)]) ?_ 0 _ rfl;(with_reducible repeat (first|refine blk_drewN ?_ _|refine blk_drew ?_|refine blk_alloc ?_ _));exact BK277.out⟩,⟨by repeat (first|(with_reducible first|exact HB.out|apply below_alloc|apply pw_below_drewN|apply below_drew1|refine below_set ?_ GE276.out|refine below_set ?_ GE277.out)|exact HB.out)⟩⟩
 case rest =>
  clear HC3
  try clear c1
  try clear p1
  try clear q1
  try clear hx1
  try clear qi1
  try clear c2
  try clear p2
  try clear c3
  try clear c6
  try clear p6
  try clear c8
  try clear c8b0
  try clear c8b1
  try clear c11
  try clear c14
  try clear c14b0
  try clear c14b1
  try clear c15
  try clear c15b0
  try clear c15b1
  try clear p16
  try clear q16
  try clear hx16
  try clear qi16
  try clear c17
  try clear c18
  try clear c18b0
  try clear c18b1
  try clear c19
  try clear c20
  try clear c23
  try clear hcz12_0
  try clear hcz12_1
  try clear hcz21_0
  try clear hcz21_1
  try clear hcz24_0
  try clear hcz24_1
  try clear hcz7_0
  try clear hcz7_1
  try clear hfz12_0
  try clear hfz12_1
  try clear hfz21_0
  try clear hfz21_1
  try clear hfz24_0
  try clear hfz24_1
  try clear hfz7_0
  try clear hfz7_1
  try clear p1
  try clear p16
  try clear p2
  try clear q1
  try clear q16
  obtain ⟨kq,x7_2,x278000_2,x278001_2,rfl,HA,HJ2,BK276,BK277,HB⟩:=hcut
  cases kq with
  | zero=>exact absurd HA.out (by simp [thresherref03_Read.j1])
  | succ kj2 =>
   have H:=HA.out
   clear HA
   simp only [thresherref03_Read.j1] at H
   replace H:=Option.bind_eq_some_iff.mp H
   obtain ⟨t285,A250,H⟩:=H
   replace H : (if x7_2=true then (if t285.toList=a1.toList then (thresherref03_Read.j2 kj2 (a1.toList == ([] : List UInt8)) x278000_2 x278001_2) else (thresherref03_Read.j2 kj2 true x278000_2 x278001_2)) else (thresherref03_Read.j2 kj2 true x278000_2 x278001_2))=some (r1,r2,r3):=H
   have A25:=Aside0.mk A250
   clear A250
   have HC26:=Aside0.mk H
   clear H
   have hnb27:=NB277_276.out
   have hnc27:=NB276_277.out
   have hcz28_0 : wc.cell? ⟨gb277,0,none⟩=some (.int .i64 x278000_2):=(blk_cell BK277.out 0).trans rfl
   have hcz28_1 : wc.cell? ⟨gb277,1,none⟩=some (.string x278001_2):=(blk_cell BK277.out 1).trans rfl
   have hfz28_0:=blk_frozen BK277.out 0
   have hfz28_1:=blk_frozen BK277.out 1
   go_upto_region 13 with (first|((with_reducible refine gate_callee (f:=23) rfl ?_);refine goesL_ (some 51) rfl rfl Tryd.func23 (by kernel_rfl) rfl #[.int .i64 a0,.agg #[.int .i64 x278000_2,.string x278001_2]] rfl (by (try simp only [List.map_toArray,List.map_cons,List.map_nil]);first|done|rfl|(simp only [List.length_drop,List.length_take];rfl)) ?_;(with_reducible refine (thresherref03_Text.calls kj2 a0 x278000_2 x278001_2 t285 _ A25.out).mono ?_);rintro e w29 ⟨rfl,hb⟩;refine ⟨_,rfl,?_⟩;have n0_:=Aside0.mk (blk_below (g:=gb276) (o:=.cells #[.int .i64 0,.string (⟨#[]⟩ : ByteArray)] 23 (0,0)) (blk_up BK276.out) hb);have n1_:=Aside0.mk (blk_below (blk_up BK277.out) hb);have n2_:=Aside0.mk (below_step (below_go HB.out) hb);clear BK276;clear BK277;clear HB;have BK276:=n0_;have BK277:=n1_;have HB:=n2_;clear n0_ n1_ n2_;(try clear hb);(try clear hb2);(try clear hk);(try clear hi)))
   (try simp only [Act.put,List.setIfInBounds_toArray,List.set_cons_zero,List.set_cons_succ])
   go_cut [62] (fun v62 wc=>∃ (kq : Nat) (x62_25 : Bool),v62=.bool x62_25∧Aside0 (thresherref03_Read.j2 kq x62_25 x278000_2 x278001_2=some (r1,r2,r3))∧Aside0 (kq≤kj2)∧Aside0 (wc.heap[gb276]?=some (.cells #[.int .i64 0,.string (⟨#[]⟩ : ByteArray)] 23 (0,0)))∧Aside0 (wc.heap[gb277]?=some (.cells #[.int .i64 x278000_2,.string x278001_2] 23 (0,0)))∧Aside0 (Below w.heap.size w wc))
   case first =>
    have H:=HC26.out
    clear HC26
    by_cases c30 : x7_2=true
    ·subst c30
     have H1 : (if t285.toList=a1.toList then (thresherref03_Read.j2 kj2 (a1.toList == ([] : List UInt8)) x278000_2 x278001_2) else (thresherref03_Read.j2 kj2 true x278000_2 x278001_2))=some (r1,r2,r3):=by rw [if_pos rfl] at H;exact H
     clear H
     have H:=H1
     clear H1
     by_cases c31 : t285.toList=a1.toList
     ·rw [if_pos c31] at H
      have c31b0 : (t285.toList == a1.toList)=true:=beq_iff_eq.mpr c31
      have c31b1 : (t285.toList != a1.toList)=false:=bne_eq_false_iff_eq.mpr c31
      clear c31
      (first|rw [c31b0]|(simp only [i64_w,i32_w];rw [c31b0])|skip)
      have H':=Aside0.mk H
      clear H
      go_wp2
      go_meet
      case rel=>exact ⟨_,((a1.toList == ([] : List UInt8))),(by first|rfl|(simp;done)|(simp [*];done)),(by first|exact H'|(subst_vars;exact H')),⟨by have:=HJ2.out;first|omega|exact Nat.le_refl _⟩,⟨by (with_reducible repeat (first|refine blk_drewN ?_ _|refine blk_drew ?_|refine blk_alloc ?_ _));exact BK276.out⟩,⟨by (with_reducible repeat (first|refine blk_drewN ?_ _|refine blk_drew ?_|refine blk_alloc ?_ _));exact BK277.out⟩,⟨by repeat (first|(with_reducible first|exact HB.out|apply below_alloc|apply pw_below_drewN|apply below_drew1|refine below_set ?_ GE276.out|refine below_set ?_ GE277.out)|exact HB.out)⟩⟩
     ·rw [if_neg c31] at H
      have c31b0 : (t285.toList == a1.toList)=false:=beq_eq_false_iff_ne.mpr c31
      have c31b1 : (t285.toList != a1.toList)=true:=bne_iff_ne.mpr c31
      (first|rw [c31b0]|(simp only [i64_w,i32_w];rw [c31b0])|skip)
      have H':=Aside0.mk H
      clear H
      go_wp2
      go_meet
      case rel=>exact ⟨_,(true),(by first|rfl|(simp;done)|(simp [*];done)),(by first|exact H'|(subst_vars;exact H')),⟨by have:=HJ2.out;first|omega|exact Nat.le_refl _⟩,⟨by (with_reducible repeat (first|refine blk_drewN ?_ _|refine blk_drew ?_|refine blk_alloc ?_ _));exact BK276.out⟩,⟨by (with_reducible repeat (first|refine blk_drewN ?_ _|refine blk_drew ?_|refine blk_alloc ?_ _));exact BK277.out⟩,⟨by repeat (first|(with_reducible first|exact HB.out|apply below_alloc|apply pw_below_drewN|apply below_drew1|refine below_set ?_ GE276.out|refine below_set ?_ GE277.out)|exact HB.out)⟩⟩
    ·replace c30:=Bool.eq_false_iff.mpr c30
     subst c30
     have H1 : (thresherref03_Read.j2 kj2 true x278000_2 x278001_2)=some (r1,r2,r3):=by rw [if_neg (show ¬ (false=true) by decide)] at H;exact H
     clear H
     have H:=H1
     clear H1
     have H':=Aside0.mk H
     clear H
     go_wp2
     go_meet
     case rel=>exact ⟨_,(true),(by first|rfl|(simp;done)|(simp [*];done)),(by first|exact H'|(subst_vars;exact H')),⟨by have:=HJ2.out;first|omega|exact Nat.le_refl _⟩,⟨by (with_reducible repeat (first|refine blk_drewN ?_ _|refine blk_drew ?_|refine blk_alloc ?_ _));exact BK276.out⟩,⟨by (with_reducible repeat (first|refine blk_drewN ?_ _|refine blk_drew ?_|refine blk_alloc ?_ _));exact BK277.out⟩,⟨by repeat (first|(with_reducible first|exact HB.out|apply below_alloc|apply pw_below_drewN|apply below_drew1|refine below_set ?_ GE276.out|refine below_set ?_ GE277.out)|exact HB.out)⟩⟩
   case rest =>
    clear HC26
    try clear c1
    try clear p1
    try clear q1
    try clear hx1
    try clear qi1
    try clear c2
    try clear p2
    try clear c3
    try clear c6
    try clear p6
    try clear c8
    try clear c8b0
    try clear c8b1
    try clear c11
    try clear c14
    try clear c14b0
    try clear c14b1
    try clear c15
    try clear c15b0
    try clear c15b1
    try clear p16
    try clear q16
    try clear hx16
    try clear qi16
    try clear c17
    try clear c18
    try clear c18b0
    try clear c18b1
    try clear c19
    try clear c20
    try clear c23
    try clear c27
    try clear c30
    try clear c31
    try clear c31b0
    try clear c31b1
    try clear hcz12_0
    try clear hcz12_1
    try clear hcz21_0
    try clear hcz21_1
    try clear hcz24_0
    try clear hcz24_1
    try clear hcz28_0
    try clear hcz28_1
    try clear hcz7_0
    try clear hcz7_1
    try clear hfz12_0
    try clear hfz12_1
    try clear hfz21_0
    try clear hfz21_1
    try clear hfz24_0
    try clear hfz24_1
    try clear hfz28_0
    try clear hfz28_1
    try clear hfz7_0
    try clear hfz7_1
    try clear p1
    try clear p16
    try clear p2
    try clear p6
    try clear q1
    try clear q16
    obtain ⟨kq,x62_25,rfl,HA,HJ25,BK276,BK277,HB⟩:=hcut
    cases kq with
    | zero=>exact absurd HA.out (by simp [thresherref03_Read.j2])
    | succ kj25 =>
     have H:=HA.out
     clear HA
     simp only [thresherref03_Read.j2] at H
     by_cases c32 : x62_25=true
     ·subst c32
      have H1 : (some (0,(⟨#[]⟩ : ByteArray),false))=some (r1,r2,r3):=by rw [if_pos rfl] at H;exact H
      clear H
      have H:=H1
      clear H1
      simp only [Option.some.injEq,Prod.mk.injEq] at H
      obtain ⟨rfl,rfl,rfl⟩:=H
      have hnb33:=NB276_277.out
      have hnc33:=NB277_276.out
      have hcz34_0 : wc.cell? ⟨gb276,0,none⟩=some (.int .i64 0):=(blk_cell BK276.out 0).trans rfl
      have hcz34_1 : wc.cell? ⟨gb276,1,none⟩=some (.string (⟨#[]⟩ : ByteArray)):=(blk_cell BK276.out 1).trans rfl
      have hfz34_0:=blk_frozen BK276.out 0
      have hfz34_1:=blk_frozen BK276.out 1
      go_wp2
      refine bodyPost_ret (results_ct rfl _ _ gb276 23 #[.int .i64 0,.string (⟨#[]⟩ : ByteArray)] (0,0) _ rfl (by (with_reducible repeat (first|refine blk_drewN ?_ _|refine blk_drew ?_|refine blk_alloc ?_ _));refine blk_put (cs:=#[.int .i64 0,.string (⟨#[]⟩ : ByteArray)]) ?_ 1 _ rfl;(with_reducible repeat (first|refine blk_drewN ?_ _|refine blk_drew ?_|refine blk_alloc ?_ _));refine blk_put (cs:=#[.int .i64 0,.string (⟨#[]⟩ : ByteArray)]) ?_ 0 _ rfl;(with_reducible repeat (first|refine blk_drewN ?_ _|refine blk_drew ?_|refine blk_alloc ?_ _));exact BK276.out) Tryd.underlying23 rfl (by kernel_rfl)) rfl ?_
      exact ⟨by first|rfl|(simp [errW_none,errW_some] <;> rfl)|(simp [*,errW_none,errW_some] <;> rfl),by repeat (first|(with_reducible first|exact HB.out|apply below_alloc|apply pw_below_drewN|apply below_drew1|refine below_set ?_ GE276.out|refine below_set ?_ GE277.out)|exact HB.out)⟩
     ·replace c32:=Bool.eq_false_iff.mpr c32
      subst c32
      have H1 : (some (x278000_2,x278001_2,true))=some (r1,r2,r3):=by rw [if_neg (show ¬ (false=true) by decide)] at H;exact H
      clear H
      have H:=H1
      clear H1
      simp only [Option.some.injEq,Prod.mk.injEq] at H
      obtain ⟨rfl,rfl,rfl⟩:=H
      have hnb35:=NB277_276.out
      have hnc35:=NB276_277.out
      have hcz36_0 : wc.cell? ⟨gb277,0,none⟩=some (.int .i64 x278000_2):=(blk_cell BK277.out 0).trans rfl
      have hcz36_1 : wc.cell? ⟨gb277,1,none⟩=some (.string x278001_2):=(blk_cell BK277.out 1).trans rfl
      have hfz36_0:=blk_frozen BK277.out 0
      have hfz36_1:=blk_frozen BK277.out 1
      have hcz37_0 : wc.cell? ⟨gb276,0,none⟩=some (.int .i64 0):=(blk_cell BK276.out 0).trans rfl
      have hcz37_1 : wc.cell? ⟨gb276,1,none⟩=some (.string (⟨#[]⟩ : ByteArray)):=(blk_cell BK276.out 1).trans rfl
      have hfz37_0:=blk_frozen BK276.out 0
      have hfz37_1:=blk_frozen BK276.out 1
      go_wp2
      refine bodyPost_ret (results_ct rfl _ _ gb276 23 #[.int .i64 x278000_2,.string x278001_2] (0,0) _ rfl (by (with_reducible repeat (first|refine blk_drewN ?_ _|refine blk_drew ?_|refine blk_alloc ?_ _));refine blk_put (cs:=#[.int .i64 x278000_2,.string (⟨#[]⟩ : ByteArray)]) ?_ 1 _ rfl;(with_reducible repeat (first|refine blk_drewN ?_ _|refine blk_drew ?_|refine blk_alloc ?_ _));refine blk_put (cs:=#[.int .i64 0,.string (⟨#[]⟩ : ByteArray)]) ?_ 0 _ rfl;(with_reducible repeat (first|refine blk_drewN ?_ _|refine blk_drew ?_|refine blk_alloc ?_ _));exact BK276.out) Tryd.underlying23 rfl (by kernel_rfl)) rfl ?_
      exact ⟨by first|rfl|(simp [errW_none,errW_some] <;> rfl)|(simp [*,errW_none,errW_some] <;> rfl),by repeat (first|(with_reducible first|exact HB.out|apply below_alloc|apply pw_below_drewN|apply below_drew1|refine below_set ?_ GE276.out|refine below_set ?_ GE277.out)|exact HB.out)⟩
def thresherref03_both.f (k : Nat) (a0 : Int) (a1_0 : Int) (a1_1 : ByteArray) (a2_0 : Int) (a2_1 : ByteArray) : Option (Bool):=(thresherref03_Fits.f k a0 a1_0 a1_1).bind fun t288=>((thresherref03_Fits.f k a0 a2_0 a2_1).bind fun t289=>(if t288=true then (some t289) else (some false)))
theorem thresherref03_both.mono : ∀ a0 a1 a2 a3 a4 k,LeO (thresherref03_both.f k a0 a1 a2 a3 a4) (thresherref03_both.f (k + 1) a0 a1 a2 a3 a4):=by
 intro a0 a1 a2 a3 a4 k
 unfold thresherref03_both.f
 repeat' first
   | (with_reducible exact thresherref03_Fits.mono _ _ _ _)
   | (with_reducible exact LeO.refl _)
   | (with_reducible exact LeO.none _)
   | (with_reducible refine LeO.ite ?_ ?_)
   | (with_reducible refine LeO.bind ?_ (fun _=>?_))
   | exact thresherref03_Fits.mono _ _ _ _
   | exact LeO.none _
   | refine LeO.ite ?_ ?_
   | refine LeO.bind ?_ (fun _=>?_)
set_option maxHeartbeats 8000000 in
set_option maxRecDepth 100000 in
theorem thresherref03_both.calls (k : Nat) (a0 : Int) (a1_0 : Int) (a1_1 : ByteArray) (a2_0 : Int) (a2_1 : ByteArray) (r : Bool) (w : World) (h : thresherref03_both.f k a0 a1_0 a1_1 a2_0 a2_1=some r) :
  Calls Tryd.prog 35 #[.int .i64 a0,.agg #[.int .i64 a1_0,.string a1_1],.agg #[.int .i64 a2_0,.string a2_1]] w fun e w'=>e=.returned (.bool r)∧Below w.heap.size w w':=by
 have hu23:=Tryd.underlying23
 have HB:=Aside0.mk (Below.refl w.heap.size w)
 have H : ((thresherref03_Fits.f k a0 a1_0 a1_1).bind fun t288=>((thresherref03_Fits.f k a0 a2_0 a2_1).bind fun t289=>(if t288=true then (some t289) else (some false))))=some r:=h
 clear h
 replace H:=Option.bind_eq_some_iff.mp H
 obtain ⟨t288,A40,H⟩:=H
 replace H : ((thresherref03_Fits.f k a0 a2_0 a2_1).bind fun t289=>(if t288=true then (some t289) else (some false)))=some r:=H
 have A4:=Aside0.mk A40
 clear A40
 replace H:=Option.bind_eq_some_iff.mp H
 obtain ⟨t289,A50,H⟩:=H
 replace H : (if t288=true then (some t289) else (some false))=some r:=H
 have A5:=Aside0.mk A50
 clear A50
 by_cases c6 : t288=true
 ·subst c6
  have H1 : (some t289)=some r:=by rw [if_pos rfl] at H;exact H
  clear H
  have H:=H1
  clear H1
  obtain rfl:=Option.some.inj H
  go_enter Tryd.func35,Tryd.ntmps35
  go_wp2_with (first|((with_reducible refine gate_dst (N:=4) rfl ?_);refine box_event ?hg (N:=4) ?hd (cs:=#[.int .i64 a1_0,.string a1_1]) (t:=23) ?hr ?_;(case hd=>rfl);(case hg=>rfl);(case hr=>first|(go_simp;done)|(go_simp;rfl));intro gb286 hg w7 hbox hb;have n0_:=Aside0.mk (below_step (below_up HB.out) hb);have n1_:=Aside0.mk (hbox);have n2_:=Aside0.mk ((by rw [hg];exact (below_size (below_up HB.out)) : w.heap.size≤gb286));have n3_:=Aside0.mk ((by rw [hg];exact (below_size (below_up HB.out)) : w.heap.size≤gb286));clear HB;have HB:=n0_;have BK286:=n1_;have GW286:=n2_;have GE286:=n3_;clear n0_ n1_ n2_ n3_;clear hb hbox hg)|((with_reducible refine gate_dst (N:=5) rfl ?_);refine box_event ?hg (N:=5) ?hd (cs:=#[.int .i64 a2_0,.string a2_1]) (t:=23) ?hr ?_;(case hd=>rfl);(case hg=>rfl);(case hr=>first|(go_simp;done)|(go_simp;rfl));intro gb287 hg w8 hbox hb;have n0_:=Aside0.mk (blk_below (blk_up BK286.out) hb);have n1_:=Aside0.mk (below_step (below_go HB.out) hb);have n2_:=Aside0.mk (hbox);have n3_:=Aside0.mk ((by rw [hg];exact (below_size (below_go HB.out)) : w.heap.size≤gb287));have n4_:=Aside0.mk ((by rw [hg];exact (below_size (below_go HB.out)) : w.heap.size≤gb287));have n5_:=Aside0.mk ((by rw [hg];exact Nat.ne_of_lt (blk_lt (blk_up BK286.out)) : gb286≠gb287));have n6_:=Aside0.mk ((by rw [hg];exact Nat.ne_of_gt (blk_lt (blk_up BK286.out)) : gb287≠gb286));clear BK286;clear HB;have BK286:=n0_;have HB:=n1_;have BK287:=n2_;have GW287:=n3_;have GE287:=n4_;have NB286_287:=n5_;have NB287_286:=n6_;clear n0_ n1_ n2_ n3_ n4_ n5_ n6_;clear hb hbox hg;have hnb9:=NB286_287.out;have hnc9:=NB287_286.out;have hcz10_0 : w8.cell? ⟨gb286,0,none⟩=some (.int .i64 a1_0):=(blk_cell BK286.out 0).trans rfl;have hcz10_1 : w8.cell? ⟨gb286,1,none⟩=some (.string a1_1):=(blk_cell BK286.out 1).trans rfl;have hfz10_0:=blk_frozen BK286.out 0;have hfz10_1:=blk_frozen BK286.out 1)|((with_reducible refine gate_callee (f:=20) rfl ?_);refine goesL_ (some 11) rfl rfl Tryd.func20 (by kernel_rfl) rfl #[.int .i64 a0,.agg #[.int .i64 a1_0,.string a1_1]] rfl (by (try simp only [List.map_toArray,List.map_cons,List.map_nil]);first|done|rfl|(simp only [List.length_drop,List.length_take];rfl)) ?_;(with_reducible refine (thresherref03_Fits.calls k a0 a1_0 a1_1 true _ A4.out).mono ?_);rintro e w11 ⟨rfl,hb⟩;refine ⟨_,rfl,?_⟩;have n0_:=Aside0.mk (blk_below (blk_up BK286.out) hb);have n1_:=Aside0.mk (blk_below (blk_up BK287.out) hb);have n2_:=Aside0.mk (below_step (below_go HB.out) hb);clear BK286;clear BK287;clear HB;have BK286:=n0_;have BK287:=n1_;have HB:=n2_;clear n0_ n1_ n2_;(try clear hb);(try clear hb2);(try clear hk);(try clear hi);have hcz12_0 : w11.cell? ⟨gb287,0,none⟩=some (.int .i64 a2_0):=(blk_cell BK287.out 0).trans rfl;have hcz12_1 : w11.cell? ⟨gb287,1,none⟩=some (.string a2_1):=(blk_cell BK287.out 1).trans rfl;have hfz12_0:=blk_frozen BK287.out 0;have hfz12_1:=blk_frozen BK287.out 1)|((with_reducible refine gate_callee (f:=20) rfl ?_);refine goesL_ (some 14) rfl rfl Tryd.func20 (by kernel_rfl) rfl #[.int .i64 a0,.agg #[.int .i64 a2_0,.string a2_1]] rfl (by (try simp only [List.map_toArray,List.map_cons,List.map_nil]);first|done|rfl|(simp only [List.length_drop,List.length_take];rfl)) ?_;(with_reducible refine (thresherref03_Fits.calls k a0 a2_0 a2_1 t289 _ A5.out).mono ?_);rintro e w13 ⟨rfl,hb⟩;refine ⟨_,rfl,?_⟩;have n0_:=Aside0.mk (blk_below (blk_up BK286.out) hb);have n1_:=Aside0.mk (blk_below (blk_up BK287.out) hb);have n2_:=Aside0.mk (below_step (below_go HB.out) hb);clear BK286;clear BK287;clear HB;have BK286:=n0_;have BK287:=n1_;have HB:=n2_;clear n0_ n1_ n2_;(try clear hb);(try clear hb2);(try clear hk);(try clear hi)))
  go_ret
  exact ⟨by first|rfl|(simp [errW_none,errW_some] <;> rfl)|(simp [*,errW_none,errW_some] <;> rfl),by repeat (first|(with_reducible first|exact HB.out|apply below_alloc|apply pw_below_drewN|apply below_drew1|refine below_set ?_ GE286.out|refine below_set ?_ GE287.out)|exact HB.out)⟩
 ·replace c6:=Bool.eq_false_iff.mpr c6
  subst c6
  have H1 : (some false)=some r:=by rw [if_neg (show ¬ (false=true) by decide)] at H;exact H
  clear H
  have H:=H1
  clear H1
  obtain rfl:=Option.some.inj H
  go_enter Tryd.func35,Tryd.ntmps35
  go_wp2_with (first|((with_reducible refine gate_dst (N:=4) rfl ?_);refine box_event ?hg (N:=4) ?hd (cs:=#[.int .i64 a1_0,.string a1_1]) (t:=23) ?hr ?_;(case hd=>rfl);(case hg=>rfl);(case hr=>first|(go_simp;done)|(go_simp;rfl));intro gb286 hg w14 hbox hb;have n0_:=Aside0.mk (below_step (below_up HB.out) hb);have n1_:=Aside0.mk (hbox);have n2_:=Aside0.mk ((by rw [hg];exact (below_size (below_up HB.out)) : w.heap.size≤gb286));have n3_:=Aside0.mk ((by rw [hg];exact (below_size (below_up HB.out)) : w.heap.size≤gb286));clear HB;have HB:=n0_;have BK286:=n1_;have GW286:=n2_;have GE286:=n3_;clear n0_ n1_ n2_ n3_;clear hb hbox hg)|((with_reducible refine gate_dst (N:=5) rfl ?_);refine box_event ?hg (N:=5) ?hd (cs:=#[.int .i64 a2_0,.string a2_1]) (t:=23) ?hr ?_;(case hd=>rfl);(case hg=>rfl);(case hr=>first|(go_simp;done)|(go_simp;rfl));intro gb287 hg w15 hbox hb;have n0_:=Aside0.mk (blk_below (blk_up BK286.out) hb);have n1_:=Aside0.mk (below_step (below_go HB.out) hb);have n2_:=Aside0.mk (hbox);have n3_:=Aside0.mk ((by rw [hg];exact (below_size (below_go HB.out)) : w.heap.size≤gb287));have n4_:=Aside0.mk ((by rw [hg];exact (below_size (below_go HB.out)) : w.heap.size≤gb287));have n5_:=Aside0.mk ((by rw [hg];exact Nat.ne_of_lt (blk_lt (blk_up BK286.out)) : gb286≠gb287));have n6_:=Aside0.mk ((by rw [hg];exact Nat.ne_of_gt (blk_lt (blk_up BK286.out)) : gb287≠gb286));clear BK286;clear HB;have BK286:=n0_;have HB:=n1_;have BK287:=n2_;have GW287:=n3_;have GE287:=n4_;have NB286_287:=n5_;have NB287_286:=n6_;clear n0_ n1_ n2_ n3_ n4_ n5_ n6_;clear hb hbox hg;have hnb16:=NB286_287.out;have hnc16:=NB287_286.out;have hcz17_0 : w15.cell? ⟨gb286,0,none⟩=some (.int .i64 a1_0):=(blk_cell BK286.out 0).trans rfl;have hcz17_1 : w15.cell? ⟨gb286,1,none⟩=some (.string a1_1):=(blk_cell BK286.out 1).trans rfl;have hfz17_0:=blk_frozen BK286.out 0;have hfz17_1:=blk_frozen BK286.out 1)|((with_reducible refine gate_callee (f:=20) rfl ?_);refine goesL_ (some 11) rfl rfl Tryd.func20 (by kernel_rfl) rfl #[.int .i64 a0,.agg #[.int .i64 a1_0,.string a1_1]] rfl (by (try simp only [List.map_toArray,List.map_cons,List.map_nil]);first|done|rfl|(simp only [List.length_drop,List.length_take];rfl)) ?_;(with_reducible refine (thresherref03_Fits.calls k a0 a1_0 a1_1 false _ A4.out).mono ?_);rintro e w18 ⟨rfl,hb⟩;refine ⟨_,rfl,?_⟩;have n0_:=Aside0.mk (blk_below (blk_up BK286.out) hb);have n1_:=Aside0.mk (blk_below (blk_up BK287.out) hb);have n2_:=Aside0.mk (below_step (below_go HB.out) hb);clear BK286;clear BK287;clear HB;have BK286:=n0_;have BK287:=n1_;have HB:=n2_;clear n0_ n1_ n2_;(try clear hb);(try clear hb2);(try clear hk);(try clear hi);have hcz19_0 : w18.cell? ⟨gb287,0,none⟩=some (.int .i64 a2_0):=(blk_cell BK287.out 0).trans rfl;have hcz19_1 : w18.cell? ⟨gb287,1,none⟩=some (.string a2_1):=(blk_cell BK287.out 1).trans rfl;have hfz19_0:=blk_frozen BK287.out 0;have hfz19_1:=blk_frozen BK287.out 1)|((with_reducible refine gate_callee (f:=20) rfl ?_);refine goesL_ (some 14) rfl rfl Tryd.func20 (by kernel_rfl) rfl #[.int .i64 a0,.agg #[.int .i64 a2_0,.string a2_1]] rfl (by (try simp only [List.map_toArray,List.map_cons,List.map_nil]);first|done|rfl|(simp only [List.length_drop,List.length_take];rfl)) ?_;(with_reducible refine (thresherref03_Fits.calls k a0 a2_0 a2_1 t289 _ A5.out).mono ?_);rintro e w20 ⟨rfl,hb⟩;refine ⟨_,rfl,?_⟩;have n0_:=Aside0.mk (blk_below (blk_up BK286.out) hb);have n1_:=Aside0.mk (blk_below (blk_up BK287.out) hb);have n2_:=Aside0.mk (below_step (below_go HB.out) hb);clear BK286;clear BK287;clear HB;have BK286:=n0_;have BK287:=n1_;have HB:=n2_;clear n0_ n1_ n2_;(try clear hb);(try clear hb2);(try clear hk);(try clear hi)))
  go_ret
  exact ⟨by first|rfl|(simp [errW_none,errW_some] <;> rfl)|(simp [*,errW_none,errW_some] <;> rfl),by repeat (first|(with_reducible first|exact HB.out|apply below_alloc|apply pw_below_drewN|apply below_drew1|refine below_set ?_ GE286.out|refine below_set ?_ GE287.out)|exact HB.out)⟩
end Go.Proofs.YtifpjhghbafcjaaDoor.P

