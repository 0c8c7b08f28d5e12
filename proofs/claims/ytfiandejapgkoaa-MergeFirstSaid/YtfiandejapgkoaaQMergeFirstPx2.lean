/- Texts of MergeFirst. Merged: Px2. -/
import Derived.Test.YtfiandejapgkoaaQMergeFirstPx0
namespace Go.Proofs.Ytfiandejapgkoaa.P
open Go.RowKit Go.Proofs.YtfiandejapgkoaaW.PrintWords Go.Proofs.YtfiandejapgkoaaW.PrintLast Go.Proofs.YtfiandejapgkoaaW.PrintMore
attribute [local go_sem] max2_int min2_int max_two min_two max_three min_three max_four min_four   -- for this text's walks alone
set_option linter.unusedVariables false
set_option linter.unusedSimpArgs false
def cmp_Or_int.l0 : Nat→Int→List Int→Int→Int→Option (Int)
 | 0,_,_,_,_=>none
 | k + 1,x3,x6,x7,x8=>if x8 < x7 then (if 0≤x8 then (if x8 < (x6.length : Int) then (if (rd x6 x8)=x3 then (cmp_Or_int.l0 k x3 x6 x7 (wrap64 (x8 + 1))) else (some (rd x6 x8))) else (none)) else (none)) else (some x3)
def cmp_Or_int.f (k : Nat) (l0 : List Int) : Option (Int):=cmp_Or_int.l0 k 0 l0 (l0.length : Int) 0
theorem cmp_Or_int.mono_l : ∀ k,(∀ y0 y1 y2 y3,LeO (cmp_Or_int.l0 k y0 y1 y2 y3) (cmp_Or_int.l0 (k + 1) y0 y1 y2 y3))
 | 0=>fun _ _ _ _ r h=>by simp [cmp_Or_int.l0] at h
 | k + 1=>by
  have ih0:=cmp_Or_int.mono_l k
  ·intro y0 y1 y2 y3
   unfold cmp_Or_int.l0
   repeat' first
   | (with_reducible exact ih0 _ _ _ _)
   | (with_reducible exact LeO.refl _)
   | (with_reducible exact LeO.none _)
   | (with_reducible refine LeO.ite ?_ ?_)
   | (with_reducible refine LeO.bind ?_ (fun _=>?_))
   | exact ih0 _ _ _ _
   | exact LeO.none _
   | refine LeO.ite ?_ ?_
   | refine LeO.bind ?_ (fun _=>?_)
theorem cmp_Or_int.mono : ∀ a0 k,LeO (cmp_Or_int.f k a0) (cmp_Or_int.f (k + 1) a0):=by
 intro a0 k
 have ih0:=cmp_Or_int.mono_l k
 unfold cmp_Or_int.f
 repeat' first
   | (with_reducible exact ih0 _ _ _ _)
   | (with_reducible exact LeO.refl _)
   | (with_reducible exact LeO.none _)
   | (with_reducible refine LeO.ite ?_ ?_)
   | (with_reducible refine LeO.bind ?_ (fun _=>?_))
   | exact ih0 _ _ _ _
   | exact LeO.none _
   | refine LeO.ite ?_ ?_
   | refine LeO.bind ?_ (fun _=>?_)
set_option maxHeartbeats 8000000 in
set_option maxRecDepth 100000 in
theorem cmp_Or_int.calls (k : Nat) (A0 : Option Addr) (c0 : Nat) (l0 : List Int) (r : Int) (w : World) (hr0 : Kd.C (Kd.int .i64) w A0 l0.length l0) (hc0 : l0.length≤c0) (h : cmp_Or_int.f k l0=some r) :
  Calls Try.prog 71 #[.slice A0 l0.length c0] w fun e w'=>e=.returned (.int .i64 r)∧Drawn0 w w':=by
 have HR0:=Aside0.mk hr0
 have HC0:=Aside0.mk hc0
 clear hr0 hc0
 have H : (cmp_Or_int.l0 k 0 l0 (l0.length : Int) 0)=some r:=h
 clear h
 have H':=Aside0.mk H
 clear H
 go_enter Try.func71,Try.ntmps71
 go_wp2
 go_loopg [8] k (fun kq v8 w'=>∃ (x8_1 : Int),v8=.int .i64 x8_1∧Aside0 (cmp_Or_int.l0 kq 0 l0 (l0.length : Int) x8_1=some r)∧Aside0 (kq≤k)∧Drawn0 w w')
 case atStart=>exact ⟨(0),(by first|rfl|(simp;done)|(simp [*];done)),H',⟨Nat.le_refl _⟩,by repeat (first|exact Drawn0.refl _|apply Drawn0.step)⟩
 case round =>
  clear H'
  obtain ⟨x8_1,rfl,HA,HK1,⟨m1,rfl⟩⟩:=hrel
  cases gk with
  | zero=>exact absurd HA.out (by simp [cmp_Or_int.l0])
  | succ k1 =>
   have H:=HA.out
   clear HA
   simp only [cmp_Or_int.l0] at H
   by_cases c2 : x8_1 < (l0.length : Int)
   ·rw [if_pos c2] at H
    have c2b0 : decide (x8_1 < (l0.length : Int))=true:=decide_eq_true c2
    clear c2
    by_cases c3 : 0≤x8_1
    ·rw [if_pos c3] at H
     have c3b0 : decide (0≤x8_1)=true:=decide_eq_true c3
     clear c3
     by_cases c4 : x8_1 < (l0.length : Int)
     ·rw [if_pos c4] at H
      have c4b0 : decide (x8_1 < (l0.length : Int))=true:=decide_eq_true c4
      clear c4
      by_cases c5 : (rd l0 x8_1)=0
      ·rw [if_pos c5] at H
       have c5b0 : ((rd l0 x8_1) == 0)=true:=beq_iff_eq.mpr c5
       have c5b1 : ((rd l0 x8_1) != 0)=false:=bne_eq_false_iff_eq.mpr c5
       clear c5
       have H':=Aside0.mk H
       clear H
       have p101 : 0≤(x8_1 : Int):=of_decide_eq_true (by first|(with_reducible assumption)|assumption)
       have q101 : x8_1 < (l0.length : Int):=of_decide_eq_true (by first|(with_reducible assumption)|assumption)
       obtain ⟨ad101,e101,hx101_0⟩:=Kd.at_int HR0.out x8_1 p101 q101
       cases e101
       replace p101:=eq_true p101
       replace q101:=eq_true q101
       go_wp2
       go_roundg k1
       case measure=>have:=HK1.out;omega
       case rel=>exact ⟨(wrap64 (x8_1 + 1)),(by first|rfl|(simp;done)|(simp [*];done)),(by first|exact H'|(subst_vars;exact H')),⟨by have:=HK1.out;omega⟩,by repeat (first|exact Drawn0.refl _|apply Drawn0.step)⟩
      ·rw [if_neg c5] at H
       have c5b0 : ((rd l0 x8_1) == 0)=false:=beq_eq_false_iff_ne.mpr c5
       have c5b1 : ((rd l0 x8_1) != 0)=true:=bne_iff_ne.mpr c5
       obtain rfl:=Option.some.inj H
       have p101 : 0≤(x8_1 : Int):=of_decide_eq_true (by first|(with_reducible assumption)|assumption)
       have q101 : x8_1 < (l0.length : Int):=of_decide_eq_true (by first|(with_reducible assumption)|assumption)
       obtain ⟨ad101,e101,hx101_0⟩:=Kd.at_int HR0.out x8_1 p101 q101
       cases e101
       replace p101:=eq_true p101
       replace q101:=eq_true q101
       go_wp2
       go_ret
       exact ⟨by first|rfl|(simp;done)|(simp [*];done),by repeat (first|exact Drawn0.refl _|apply Drawn0.step)⟩
     ·rw [if_neg c4] at H
      exact absurd H (by simp)
    ·rw [if_neg c3] at H
     exact absurd H (by simp)
   ·rw [if_neg c2] at H
    have c2b0 : decide (x8_1 < (l0.length : Int))=false:=decide_eq_false c2
    clear c2
    obtain rfl:=Option.some.inj H
    go_wp2
    go_ret
    exact ⟨by first|rfl|(simp;done)|(simp [*];done),by repeat (first|exact Drawn0.refl _|apply Drawn0.step)⟩
def cmp_isNaN_int.f (a0 : Int) : Option (Bool):=some (a0 != a0)
set_option maxHeartbeats 8000000 in
set_option maxRecDepth 100000 in
theorem cmp_isNaN_int.calls (a0 : Int) (r : Bool) (w : World) (h : cmp_isNaN_int.f a0=some r) :
  Calls Try.prog 73 #[.int .i64 a0] w fun e w'=>e=.returned (.bool r)∧Drawn0 w w':=by
 have H : (some (a0 != a0))=some r:=h
 clear h
 obtain rfl:=Option.some.inj H
 go_enter Try.func73,Try.ntmps73
 go_wp2
 go_ret
 exact ⟨by first|rfl|(simp;done)|(simp [*];done),by repeat (first|exact Drawn0.refl _|apply Drawn0.step)⟩
def cmp_Compare_int.f (a0 : Int) (a1 : Int) : Option (Int):=(cmp_isNaN_int.f a0).bind fun t102=>((cmp_isNaN_int.f a1).bind fun t103=>(if t102=true then (if t103=true then (some 0) else (some (-1))) else (if t103=true then (some 1) else (if a0 < a1 then (some (-1)) else (if a0 > a1 then (some 1) else (some 0))))))
set_option maxHeartbeats 8000000 in
set_option maxRecDepth 100000 in
theorem cmp_Compare_int.calls (a0 : Int) (a1 : Int) (r : Int) (w : World) (h : cmp_Compare_int.f a0 a1=some r) :
  Calls Try.prog 72 #[.int .i64 a0,.int .i64 a1] w fun e w'=>e=.returned (.int .i64 r)∧Drawn0 w w':=by
 have H : ((cmp_isNaN_int.f a0).bind fun t102=>((cmp_isNaN_int.f a1).bind fun t103=>(if t102=true then (if t103=true then (some 0) else (some (-1))) else (if t103=true then (some 1) else (if a0 < a1 then (some (-1)) else (if a0 > a1 then (some 1) else (some 0)))))))=some r:=h
 clear h
 replace H:=Option.bind_eq_some_iff.mp H
 obtain ⟨t102,A30,H⟩:=H
 replace H : ((cmp_isNaN_int.f a1).bind fun t103=>(if t102=true then (if t103=true then (some 0) else (some (-1))) else (if t103=true then (some 1) else (if a0 < a1 then (some (-1)) else (if a0 > a1 then (some 1) else (some 0))))))=some r:=H
 have A3:=Aside0.mk A30
 clear A30
 replace H:=Option.bind_eq_some_iff.mp H
 obtain ⟨t103,A40,H⟩:=H
 replace H : (if t102=true then (if t103=true then (some 0) else (some (-1))) else (if t103=true then (some 1) else (if a0 < a1 then (some (-1)) else (if a0 > a1 then (some 1) else (some 0)))))=some r:=H
 have A4:=Aside0.mk A40
 clear A40
 by_cases c5 : t102=true
 ·subst c5
  have H1 : (if t103=true then (some 0) else (some (-1)))=some r:=by rw [if_pos rfl] at H;exact H
  clear H
  have H:=H1
  clear H1
  by_cases c6 : t103=true
  ·subst c6
   have H1 : (some 0)=some r:=by rw [if_pos rfl] at H;exact H
   clear H
   have H:=H1
   clear H1
   obtain rfl:=Option.some.inj H
   go_enter Try.func72,Try.ntmps72
   go_wp2_with (first|((with_reducible refine gate_callee (f:=73) rfl ?_);refine goesL_ (some 8) rfl rfl Try.func73 (by kernel_rfl) rfl #[.int .i64 a0] rfl (by (try simp only [List.map_toArray,List.map_cons,List.map_nil]);first|done|rfl|(simp only [List.length_drop,List.length_take];rfl)) ?_;(with_reducible refine (cmp_isNaN_int.calls a0 true _ A3.out).mono ?_);rintro e w' ⟨rfl,⟨nd,rfl⟩⟩;refine ⟨_,rfl,?_⟩)|((with_reducible refine gate_callee (f:=73) rfl ?_);refine goesL_ (some 10) rfl rfl Try.func73 (by kernel_rfl) rfl #[.int .i64 a1] rfl (by (try simp only [List.map_toArray,List.map_cons,List.map_nil]);first|done|rfl|(simp only [List.length_drop,List.length_take];rfl)) ?_;(with_reducible refine (cmp_isNaN_int.calls a1 true _ A4.out).mono ?_);rintro e w' ⟨rfl,⟨nd,rfl⟩⟩;refine ⟨_,rfl,?_⟩))
   go_ret
   exact ⟨by first|rfl|(simp;done)|(simp [*];done),by repeat (first|exact Drawn0.refl _|apply Drawn0.step)⟩
  ·replace c6:=Bool.eq_false_iff.mpr c6
   subst c6
   have H1 : (some (-1))=some r:=by rw [if_neg (show ¬ (false=true) by decide)] at H;exact H
   clear H
   have H:=H1
   clear H1
   obtain rfl:=Option.some.inj H
   go_enter Try.func72,Try.ntmps72
   go_wp2_with (first|((with_reducible refine gate_callee (f:=73) rfl ?_);refine goesL_ (some 8) rfl rfl Try.func73 (by kernel_rfl) rfl #[.int .i64 a0] rfl (by (try simp only [List.map_toArray,List.map_cons,List.map_nil]);first|done|rfl|(simp only [List.length_drop,List.length_take];rfl)) ?_;(with_reducible refine (cmp_isNaN_int.calls a0 true _ A3.out).mono ?_);rintro e w' ⟨rfl,⟨nd,rfl⟩⟩;refine ⟨_,rfl,?_⟩)|((with_reducible refine gate_callee (f:=73) rfl ?_);refine goesL_ (some 10) rfl rfl Try.func73 (by kernel_rfl) rfl #[.int .i64 a1] rfl (by (try simp only [List.map_toArray,List.map_cons,List.map_nil]);first|done|rfl|(simp only [List.length_drop,List.length_take];rfl)) ?_;(with_reducible refine (cmp_isNaN_int.calls a1 false _ A4.out).mono ?_);rintro e w' ⟨rfl,⟨nd,rfl⟩⟩;refine ⟨_,rfl,?_⟩))
   go_ret
   exact ⟨by first|rfl|(simp;done)|(simp [*];done),by repeat (first|exact Drawn0.refl _|apply Drawn0.step)⟩
 ·replace c5:=Bool.eq_false_iff.mpr c5
  subst c5
  have H1 : (if t103=true then (some 1) else (if a0 < a1 then (some (-1)) else (if a0 > a1 then (some 1) else (some 0))))=some r:=by rw [if_neg (show ¬ (false=true) by decide)] at H;exact H
  clear H
  have H:=H1
  clear H1
  by_cases c7 : t103=true
  ·subst c7
   have H1 : (some 1)=some r:=by rw [if_pos rfl] at H;exact H
   clear H
   have H:=H1
   clear H1
   obtain rfl:=Option.some.inj H
   go_enter Try.func72,Try.ntmps72
   go_wp2_with (first|((with_reducible refine gate_callee (f:=73) rfl ?_);refine goesL_ (some 8) rfl rfl Try.func73 (by kernel_rfl) rfl #[.int .i64 a0] rfl (by (try simp only [List.map_toArray,List.map_cons,List.map_nil]);first|done|rfl|(simp only [List.length_drop,List.length_take];rfl)) ?_;(with_reducible refine (cmp_isNaN_int.calls a0 false _ A3.out).mono ?_);rintro e w' ⟨rfl,⟨nd,rfl⟩⟩;refine ⟨_,rfl,?_⟩)|((with_reducible refine gate_callee (f:=73) rfl ?_);refine goesL_ (some 10) rfl rfl Try.func73 (by kernel_rfl) rfl #[.int .i64 a1] rfl (by (try simp only [List.map_toArray,List.map_cons,List.map_nil]);first|done|rfl|(simp only [List.length_drop,List.length_take];rfl)) ?_;(with_reducible refine (cmp_isNaN_int.calls a1 true _ A4.out).mono ?_);rintro e w' ⟨rfl,⟨nd,rfl⟩⟩;refine ⟨_,rfl,?_⟩))
   go_ret
   exact ⟨by first|rfl|(simp;done)|(simp [*];done),by repeat (first|exact Drawn0.refl _|apply Drawn0.step)⟩
  ·replace c7:=Bool.eq_false_iff.mpr c7
   subst c7
   have H1 : (if a0 < a1 then (some (-1)) else (if a0 > a1 then (some 1) else (some 0)))=some r:=by rw [if_neg (show ¬ (false=true) by decide)] at H;exact H
   clear H
   have H:=H1
   clear H1
   by_cases c8 : a0 < a1
   ·rw [if_pos c8] at H
    have c8b0 : decide (a0 < a1)=true:=decide_eq_true c8
    clear c8
    obtain rfl:=Option.some.inj H
    go_enter Try.func72,Try.ntmps72
    go_wp2_with (first|((with_reducible refine gate_callee (f:=73) rfl ?_);refine goesL_ (some 8) rfl rfl Try.func73 (by kernel_rfl) rfl #[.int .i64 a0] rfl (by (try simp only [List.map_toArray,List.map_cons,List.map_nil]);first|done|rfl|(simp only [List.length_drop,List.length_take];rfl)) ?_;(with_reducible refine (cmp_isNaN_int.calls a0 false _ A3.out).mono ?_);rintro e w' ⟨rfl,⟨nd,rfl⟩⟩;refine ⟨_,rfl,?_⟩)|((with_reducible refine gate_callee (f:=73) rfl ?_);refine goesL_ (some 10) rfl rfl Try.func73 (by kernel_rfl) rfl #[.int .i64 a1] rfl (by (try simp only [List.map_toArray,List.map_cons,List.map_nil]);first|done|rfl|(simp only [List.length_drop,List.length_take];rfl)) ?_;(with_reducible refine (cmp_isNaN_int.calls a1 false _ A4.out).mono ?_);rintro e w' ⟨rfl,⟨nd,rfl⟩⟩;refine ⟨_,rfl,?_⟩))
    go_ret
    exact ⟨by first|rfl|(simp;done)|(simp [*];done),by repeat (first|exact Drawn0.refl _|apply Drawn0.step)⟩
   ·rw [if_neg c8] at H
    have c8b0 : decide (a0 < a1)=false:=decide_eq_false c8
    clear c8
    by_cases c9 : a0 > a1
    ·rw [if_pos c9] at H
     have c9b0 : decide (a1 < a0)=true:=decide_eq_true c9
     clear c9
     obtain rfl:=Option.some.inj H
     go_enter Try.func72,Try.ntmps72
     go_wp2_with (first|((with_reducible refine gate_callee (f:=73) rfl ?_);refine goesL_ (some 8) rfl rfl Try.func73 (by kernel_rfl) rfl #[.int .i64 a0] rfl (by (try simp only [List.map_toArray,List.map_cons,List.map_nil]);first|done|rfl|(simp only [List.length_drop,List.length_take];rfl)) ?_;(with_reducible refine (cmp_isNaN_int.calls a0 false _ A3.out).mono ?_);rintro e w' ⟨rfl,⟨nd,rfl⟩⟩;refine ⟨_,rfl,?_⟩)|((with_reducible refine gate_callee (f:=73) rfl ?_);refine goesL_ (some 10) rfl rfl Try.func73 (by kernel_rfl) rfl #[.int .i64 a1] rfl (by (try simp only [List.map_toArray,List.map_cons,List.map_nil]);first|done|rfl|(simp only [List.length_drop,List.length_take];rfl)) ?_;(with_reducible refine (cmp_isNaN_int.calls a1 false _ A4.out).mono ?_);rintro e w' ⟨rfl,⟨nd,rfl⟩⟩;refine ⟨_,rfl,?_⟩))
     go_ret
     exact ⟨by first|rfl|(simp;done)|(simp [*];done),by repeat (first|exact Drawn0.refl _|apply Drawn0.step)⟩
    ·rw [if_neg c9] at H
     have c9b0 : decide (a1 < a0)=false:=decide_eq_false c9
     clear c9
     obtain rfl:=Option.some.inj H
     go_enter Try.func72,Try.ntmps72
     go_wp2_with (first|((with_reducible refine gate_callee (f:=73) rfl ?_);refine goesL_ (some 8) rfl rfl Try.func73 (by kernel_rfl) rfl #[.int .i64 a0] rfl (by (try simp only [List.map_toArray,List.map_cons,List.map_nil]);first|done|rfl|(simp only [List.length_drop,List.length_take];rfl)) ?_;(with_reducible refine (cmp_isNaN_int.calls a0 false _ A3.out).mono ?_);rintro e w' ⟨rfl,⟨nd,rfl⟩⟩;refine ⟨_,rfl,?_⟩)|((with_reducible refine gate_callee (f:=73) rfl ?_);refine goesL_ (some 10) rfl rfl Try.func73 (by kernel_rfl) rfl #[.int .i64 a1] rfl (by (try simp only [List.map_toArray,List.map_cons,List.map_nil]);first|done|rfl|(simp only [List.length_drop,List.length_take];rfl)) ?_;(with_reducible refine (cmp_isNaN_int.calls a1 false _ A4.out).mono ?_);rintro e w' ⟨rfl,⟨nd,rfl⟩⟩;refine ⟨_,rfl,?_⟩))
     go_ret
     exact ⟨by first|rfl|(simp;done)|(simp [*];done),by repeat (first|exact Drawn0.refl _|apply Drawn0.step)⟩
def IsS52 (w0 W : World) (g : Nat) (f0 : List Int) (f1 : Int) (f2 : Int) (f3 : Int) (f4 : List (S54)) : Prop:=∃ A0 c0,∃ A4 c4,W.heap[g]?=some (.cells #[.slice A0 f0.length c0,.int .i64 f1,.int .i64 f2,.int .i64 f3,.slice A4 f4.length c4] 52 (0,0))∧w0.heap.size≤g∧Kd.C (Kd.int .i64) w0 A0 f0.length f0∧Kd.C k54 w0 A4 f4.length f4
theorem IsS52.grown {w0 W : World} {g : Nat} {f0 : List Int} {f1 : Int} {f2 : Int} {f3 : Int} {f4 : List (S54)} {W1 : World} {row : Option Nat} (h : IsS52 w0 W g f0 f1 f2 f3 f4) (hw : W.grownBy W1 row) (hne : some g≠row) : IsS52 w0 W1 g f0 f1 f2 f3 f4:=by
 obtain ⟨A0,c0,A4,c4,hb,hg,hr0,hr4⟩:=h
 exact ⟨A0,c0,A4,c4,blk_grown hb hw hne,hg,hr0,hr4⟩
theorem IsS52.own_neN {w0 W : World} {g : Nat} {f0 : List Int} {f1 : Int} {f2 : Int} {f3 : Int} {f4 : List (S54)} {α : Type} {d : Kd α} {e : Nat} {base : Nat} {ok : Nat→Prop} {v : Value} {xs : List α} (h : IsS52 w0 W g f0 f1 f2 f3 f4) (ho : Kd.N d e W base ok v xs) (ht : e≠52) : some g≠v.ownBlock:=by
 obtain ⟨A0,c0,A4,c4,hb,hg,hr0,hr4⟩:=h
 exact Kd.N_ne ho hb ht
theorem IsS52.fresh {w0 W : World} {g : Nat} {f0 : List Int} {f1 : Int} {f2 : Int} {f3 : Int} {f4 : List (S54)} (h : IsS52 w0 W g f0 f1 f2 f3 f4) : ∀ k,W.heap.size≤k→k≠g:=by
 obtain ⟨A0,c0,A4,c4,hb,hg,hr0,hr4⟩:=h
 exact Kd.freshB hb
theorem IsS52.kept {w0 W : World} {g : Nat} {f0 : List Int} {f1 : Int} {f2 : Int} {f3 : Int} {f4 : List (S54)} {W1 : World} {S : Nat→Prop} (h : IsS52 w0 W g f0 f1 f2 f3 f4) (hk : Kept W W1 S) (hne : ¬ S g) : IsS52 w0 W1 g f0 f1 f2 f3 f4:=by
 obtain ⟨A0,c0,A4,c4,hb,hg,hr0,hr4⟩:=h
 exact ⟨A0,c0,A4,c4,blk_kept hb hk hne,hg,hr0,hr4⟩
theorem IsS52.below {w0 W : World} {g : Nat} {f0 : List Int} {f1 : Int} {f2 : Int} {f3 : Int} {f4 : List (S54)} {W1 : World} (h : IsS52 w0 W g f0 f1 f2 f3 f4) (hw : Below W.heap.size W W1) : IsS52 w0 W1 g f0 f1 f2 f3 f4:=h.grown (grown_of_below hw none) (by simp)
theorem IsS52.alloc {w0 W : World} {g : Nat} {f0 : List Int} {f1 : Int} {f2 : Int} {f3 : Int} {f4 : List (S54)} (h : IsS52 w0 W g f0 f1 f2 f3 f4) (o : Obj) : IsS52 w0 (W.alloc o) g f0 f1 f2 f3 f4:=h.below (below_alloc (Below.refl _ _) o)
theorem IsS52.drewN {w0 W : World} {g : Nat} {f0 : List Int} {f1 : Int} {f2 : Int} {f3 : Int} {f4 : List (S54)} (h : IsS52 w0 W g f0 f1 f2 f3 f4) (m : Nat) : IsS52 w0 (W.drewN m) g f0 f1 f2 f3 f4:=h
theorem IsS52.drew {w0 W : World} {g : Nat} {f0 : List Int} {f1 : Int} {f2 : Int} {f3 : Int} {f4 : List (S54)} (h : IsS52 w0 W g f0 f1 f2 f3 f4) : IsS52 w0 W.drew g f0 f1 f2 f3 f4:=h
theorem IsS52.at_ {w0 W : World} {g : Nat} {f0 : List Int} {f1 : Int} {f2 : Int} {f3 : Int} {f4 : List (S54)} {w' : World} {m : Nat} (hq : W.drewN m=w') (h : IsS52 w0 W g f0 f1 f2 f3 f4) : IsS52 w0 w' g f0 f1 f2 f3 f4:=by subst hq;exact IsS52.drewN h m
theorem IsS52.apart {w0 W : World} {g : Nat} {f0 : List Int} {f1 : Int} {f2 : Int} {f3 : Int} {f4 : List (S54)} {α : Type} {d : Kd α} {e : Nat} {base : Nat} {ok : Nat→Prop} {v : Value} {xs : List α} (h : IsS52 w0 W g f0 f1 f2 f3 f4) (ho : d.R e W base ok v xs) (ht : ∀ q,q ∈ e :: d.E→q≠52) : d.R e W base (fun k=>ok k∧k≠g) v xs:=by
 obtain ⟨A0,c0,A4,c4,hb,hg,hr0,hr4⟩:=h
 exact Kd.R_types ho hb ht
theorem IsS52.own_ne {w0 W : World} {g : Nat} {f0 : List Int} {f1 : Int} {f2 : Int} {f3 : Int} {f4 : List (S54)} {α : Type} {d : Kd α} {e : Nat} {base : Nat} {ok : Nat→Prop} {v : Value} {xs : List α} (h : IsS52 w0 W g f0 f1 f2 f3 f4) (ho : d.R e W base ok v xs) (ht : e≠52) : some g≠v.ownBlock:=by
 obtain ⟨A0,c0,A4,c4,hb,hg,hr0,hr4⟩:=h
 exact Kd.R_ne ho hb ht
theorem IsS52.apartQ {w0 W : World} {g : Nat} {f0 : List Int} {f1 : Int} {f2 : Int} {f3 : Int} {f4 : List (S54)} {α : Type} {d : Kd α} {e : Nat} {base : Nat} {ok : Nat→Prop} {v : Value} {xs : List α} (h : IsS52 w0 W g f0 f1 f2 f3 f4) (ho : d.Q e W base ok v xs) (ht : ∀ q,q ∈ e :: d.E→q≠52) : d.Q e W base (fun k=>ok k∧k≠g) v xs:=by
 obtain ⟨A0,c0,A4,c4,hb,hg,hr0,hr4⟩:=h
 exact Kd.Q_types ho hb ht
theorem IsS52.own_neQ {w0 W : World} {g : Nat} {f0 : List Int} {f1 : Int} {f2 : Int} {f3 : Int} {f4 : List (S54)} {α : Type} {d : Kd α} {e : Nat} {base : Nat} {ok : Nat→Prop} {v : Value} {xs : List α} (h : IsS52 w0 W g f0 f1 f2 f3 f4) (ho : d.Q e W base ok v xs) (ht : e≠52) : some g≠v.ownBlock:=by
 obtain ⟨A0,c0,A4,c4,hb,hg,hr0,hr4⟩:=h
 exact Kd.Q_ne ho hb ht
theorem IsS52.apartS {w0 W : World} {g : Nat} {f0 : List Int} {f1 : Int} {f2 : Int} {f3 : Int} {f4 : List (S54)} {α : Type} {d : Kd α} {e : Nat} {base : Nat} {ok : Nat→Prop} {v : Value} {xs : List α} (h : IsS52 w0 W g f0 f1 f2 f3 f4) (ho : d.S e W base ok v xs) (ht : ∀ q,q ∈ e :: d.E→q≠52) : d.S e W base (fun k=>ok k∧k≠g) v xs:=by
 obtain ⟨A0,c0,A4,c4,hb,hg,hr0,hr4⟩:=h
 exact Kd.S_types ho hb ht
theorem IsS52.own_neS {w0 W : World} {g : Nat} {f0 : List Int} {f1 : Int} {f2 : Int} {f3 : Int} {f4 : List (S54)} {α : Type} {d : Kd α} {e : Nat} {base : Nat} {ok : Nat→Prop} {v : Value} {xs : List α} (h : IsS52 w0 W g f0 f1 f2 f3 f4) (ho : d.S e W base ok v xs) (ht : e≠52) : some g≠v.ownBlock:=by
 obtain ⟨A0,c0,A4,c4,hb,hg,hr0,hr4⟩:=h
 exact Kd.S_ne ho hb ht
theorem IsS52.lt {w0 W : World} {g : Nat} {f0 : List Int} {f1 : Int} {f2 : Int} {f3 : Int} {f4 : List (S54)} (h : IsS52 w0 W g f0 f1 f2 f3 f4) : g < W.heap.size:=by
 obtain ⟨A0,c0,A4,c4,hb,hg,hr0,hr4⟩:=h
 exact blk_lt hb
theorem IsS52.ge {w0 W : World} {g : Nat} {f0 : List Int} {f1 : Int} {f2 : Int} {f3 : Int} {f4 : List (S54)} (h : IsS52 w0 W g f0 f1 f2 f3 f4) : w0.heap.size≤g:=by
 obtain ⟨A0,c0,A4,c4,hb,hg,hr0,hr4⟩:=h
 exact hg
theorem IsS52.ne_blk {w0 W : World} {g : Nat} {f0 : List Int} {f1 : Int} {f2 : Int} {f3 : Int} {f4 : List (S54)} {a : Nat} {cs : Array Value} {t : TypeId} {fr : Nat × Nat} (h : IsS52 w0 W g f0 f1 f2 f3 f4) (hb2 : W.heap[a]?=some (.cells cs t fr)) (ht : t≠52) : g≠a:=by
 obtain ⟨A0,c0,A4,c4,hb,hg,hr0,hr4⟩:=h
 rintro rfl
 rw [hb] at hb2
 injection hb2 with hb2
 injection hb2 with _ ht2
 exact ht ht2.symm
theorem IsS52.far {w0 W : World} {g : Nat} {f0 : List Int} {f1 : Int} {f2 : Int} {f3 : Int} {f4 : List (S54)} {p : Addr} (h : IsS52 w0 W g f0 f1 f2 f3 f4) (hne : g≠p.block) (u : Value) : IsS52 w0 (W.setCell p u) g f0 f1 f2 f3 f4:=by
 obtain ⟨A0,c0,A4,c4,hb,hg,hr0,hr4⟩:=h
 exact ⟨A0,c0,A4,c4,blk_far hb hne u,hg,hr0,hr4⟩
theorem cellS52_0 {W : World} {g : Nat} {A0 : Option Addr} {c0 : Nat} {A4 : Option Addr} {c4 : Nat} {f0 : List Int} {f1 : Int} {f2 : Int} {f3 : Int} {f4 : List (S54)} (h : W.heap[g]?=some (.cells #[.slice A0 f0.length c0,.int .i64 f1,.int .i64 f2,.int .i64 f3,.slice A4 f4.length c4] 52 (0,0))) : W.cell? ⟨g,0,none⟩=some (.slice A0 f0.length c0):=(blk_cell h 0).trans rfl
theorem cellS52_1 {W : World} {g : Nat} {A0 : Option Addr} {c0 : Nat} {A4 : Option Addr} {c4 : Nat} {f0 : List Int} {f1 : Int} {f2 : Int} {f3 : Int} {f4 : List (S54)} (h : W.heap[g]?=some (.cells #[.slice A0 f0.length c0,.int .i64 f1,.int .i64 f2,.int .i64 f3,.slice A4 f4.length c4] 52 (0,0))) : W.cell? ⟨g,1,none⟩=some (.int .i64 f1):=(blk_cell h 1).trans rfl
theorem IsS52.set_1 {w0 W : World} {g : Nat} {f0 : List Int} {f1 : Int} {f2 : Int} {f3 : Int} {f4 : List (S54)} (h : IsS52 w0 W g f0 f1 f2 f3 f4) (x : Int) : IsS52 w0 (W.setCell ⟨g,1,none⟩ (.int .i64 x)) g f0 x f2 f3 f4:=by
 obtain ⟨A0,c0,A4,c4,hb,hg,hr0,hr4⟩:=h
 exact ⟨A0,c0,A4,c4,by simpa using blk_set hb 1 (.int .i64 x),hg,hr0,hr4⟩
theorem cellS52_2 {W : World} {g : Nat} {A0 : Option Addr} {c0 : Nat} {A4 : Option Addr} {c4 : Nat} {f0 : List Int} {f1 : Int} {f2 : Int} {f3 : Int} {f4 : List (S54)} (h : W.heap[g]?=some (.cells #[.slice A0 f0.length c0,.int .i64 f1,.int .i64 f2,.int .i64 f3,.slice A4 f4.length c4] 52 (0,0))) : W.cell? ⟨g,2,none⟩=some (.int .i64 f2):=(blk_cell h 2).trans rfl
theorem IsS52.set_2 {w0 W : World} {g : Nat} {f0 : List Int} {f1 : Int} {f2 : Int} {f3 : Int} {f4 : List (S54)} (h : IsS52 w0 W g f0 f1 f2 f3 f4) (x : Int) : IsS52 w0 (W.setCell ⟨g,2,none⟩ (.int .i64 x)) g f0 f1 x f3 f4:=by
 obtain ⟨A0,c0,A4,c4,hb,hg,hr0,hr4⟩:=h
 exact ⟨A0,c0,A4,c4,by simpa using blk_set hb 2 (.int .i64 x),hg,hr0,hr4⟩
theorem cellS52_3 {W : World} {g : Nat} {A0 : Option Addr} {c0 : Nat} {A4 : Option Addr} {c4 : Nat} {f0 : List Int} {f1 : Int} {f2 : Int} {f3 : Int} {f4 : List (S54)} (h : W.heap[g]?=some (.cells #[.slice A0 f0.length c0,.int .i64 f1,.int .i64 f2,.int .i64 f3,.slice A4 f4.length c4] 52 (0,0))) : W.cell? ⟨g,3,none⟩=some (.int .i64 f3):=(blk_cell h 3).trans rfl
theorem IsS52.set_3 {w0 W : World} {g : Nat} {f0 : List Int} {f1 : Int} {f2 : Int} {f3 : Int} {f4 : List (S54)} (h : IsS52 w0 W g f0 f1 f2 f3 f4) (x : Int) : IsS52 w0 (W.setCell ⟨g,3,none⟩ (.int .i64 x)) g f0 f1 f2 x f4:=by
 obtain ⟨A0,c0,A4,c4,hb,hg,hr0,hr4⟩:=h
 exact ⟨A0,c0,A4,c4,by simpa using blk_set hb 3 (.int .i64 x),hg,hr0,hr4⟩
theorem cellS52_4 {W : World} {g : Nat} {A0 : Option Addr} {c0 : Nat} {A4 : Option Addr} {c4 : Nat} {f0 : List Int} {f1 : Int} {f2 : Int} {f3 : Int} {f4 : List (S54)} (h : W.heap[g]?=some (.cells #[.slice A0 f0.length c0,.int .i64 f1,.int .i64 f2,.int .i64 f3,.slice A4 f4.length c4] 52 (0,0))) : W.cell? ⟨g,4,none⟩=some (.slice A4 f4.length c4):=(blk_cell h 4).trans rfl
theorem IsS52.new (w0 W : World) (A0 : Option Addr) (c0 : Nat) (A4 : Option Addr) (c4 : Nat) (f0 : List Int) (f1 : Int) (f2 : Int) (f3 : Int) (f4 : List (S54)) (hB : Below w0.heap.size w0 W) (hr0 : Kd.C (Kd.int .i64) w0 A0 f0.length f0) (hr4 : Kd.C k54 w0 A4 f4.length f4) : IsS52 w0 (W.alloc (.cells #[.slice A0 f0.length c0,.int .i64 f1,.int .i64 f2,.int .i64 f3,.slice A4 f4.length c4] 52)) W.heap.size f0 f1 f2 f3 f4:=⟨A0,c0,A4,c4,by simpa using heap_alloc_new W _,hB.size,hr0,hr4⟩
def merge_sources_Len.f (s0_0 : List Int) (s0_1 : Int) (s0_2 : Int) (s0_3 : Int) (s0_4 : List (S54)) : Option (Int × Int × Int × Int):=some ((s0_4.length : Int),s0_1,s0_2,s0_3)
set_option maxHeartbeats 8000000 in
set_option maxRecDepth 100000 in
theorem merge_sources_Len.calls (g : Nat) (s0_0 : List Int) (s0_1 : Int) (s0_2 : Int) (s0_3 : Int) (s0_4 : List (S54)) (r1 : Int) (r2 : Int) (r3 : Int) (r4 : Int) (w0 w : World) (hI : IsS52 w0 w g s0_0 s0_1 s0_2 s0_3 s0_4) (hB : Below w0.heap.size w0 w) (h : merge_sources_Len.f s0_0 s0_1 s0_2 s0_3 s0_4=some (r1,r2,r3,r4)) :
  Calls Try.prog 20 #[.pointer (some ⟨g,0,none⟩)] w fun e w'=>e=.returned (.int .i64 r1)∧IsS52 w0 w' g s0_0 r2 r3 r4 s0_4∧Below w0.heap.size w0 w'∧KeepBut w w' g none:=by
 have HI0:=Aside0.mk hI
 have HK:=Aside0.mk (KeepBut.refl w g none)
 have HL:=Aside0.mk hB.size
 clear hI
 have HW0:=Aside0.mk hB.size
 have HB:=Aside0.mk hB
 clear hB
 have H : (some ((s0_4.length : Int),s0_1,s0_2,s0_3))=some (r1,r2,r3,r4):=h
 clear h
 simp only [Option.some.injEq,Prod.mk.injEq] at H
 obtain ⟨rfl,rfl,rfl,rfl⟩:=H
 obtain ⟨ASz2_0,cSz2_0,ASz2_4,cSz2_4,HGz2,hgz2,HSz2_0,HSz2_4⟩:=HI0.out
 have hcz2_0:=cellS52_0 HGz2
 have hcz2_1:=cellS52_1 HGz2
 have hcz2_2:=cellS52_2 HGz2
 have hcz2_3:=cellS52_3 HGz2
 have hcz2_4:=cellS52_4 HGz2
 have hfz2_1:=blk_frozen HGz2 1
 have hfz2_2:=blk_frozen HGz2 2
 have hfz2_3:=blk_frozen HGz2 3
 clear HGz2 hgz2
 go_enter Try.func20,Try.ntmps20
 go_wp2
 go_ret
 exact ⟨by first|rfl|(simp [errW_none,errW_some] <;> rfl)|(simp [*,errW_none,errW_some] <;> rfl),by repeat (first|(with_reducible first|exact HI0.out|apply IsS52.alloc|apply IsS52.drewN|apply IsS52.drew|apply IsS52.set_1|apply IsS52.set_2|apply IsS52.set_3)|exact HI0.out),by repeat (first|(with_reducible first|exact HB.out|apply below_alloc|apply pw_below_drewN|apply below_drew1|refine below_set ?_ (IsS52.ge HI0.out))|exact HB.out),by repeat (first|(with_reducible first|exact HK.out|apply KeepBut.set_|apply keep_drewN|apply keep_drew|apply keep_alloc)|exact HK.out)⟩
end Go.Proofs.Ytfiandejapgkoaa.P

