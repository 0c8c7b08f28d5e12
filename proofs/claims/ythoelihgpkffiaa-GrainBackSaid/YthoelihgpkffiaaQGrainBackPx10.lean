/- Texts of GrainBack. Merged: Px10. -/
import Derived.Test.YthoelihgpkffiaaQGrainBackPx0
import Derived.Test.YthoelihgpkffiaaQGrainBackPx2
import Derived.Test.YthoelihgpkffiaaQGrainBackPx9
namespace Go.Proofs.Ythoelihgpkffiaa.P
open Go.RowKit Go.Proofs.YthoelihgpkffiaaW.PrintWords Go.Proofs.YthoelihgpkffiaaW.PrintLast Go.Proofs.YthoelihgpkffiaaW.PrintMore
attribute [local go_sem] max2_int min2_int max_two min_two max_three min_three max_four min_four   -- for this text's walks alone
set_option linter.unusedVariables false
set_option linter.unusedSimpArgs false
mutual
def thresherlaw10_GrainOdd.j0 : Nat→List (S45)→List (S45)→Bool→Option (Bool)
 | 0,_,_,_=>none
 | k + 1,x0,x1,x5=>if (x1.length : Int) > 60 then (if 60≤(x1.length : Int) then (thresherlaw10_GrainOdd.j1 k x0 (x1.take 60) x5) else (none)) else (thresherlaw10_GrainOdd.j1 k x0 x1 x5)
def thresherlaw10_GrainOdd.j1 : Nat→List (S45)→List (S45)→Bool→Option (Bool)
 | 0,_,_,_=>none
 | k + 1,x0,x1,x5=>(grain_Rows.f k (([x0,x1] : List (List (S45))))).bind fun bt316=>((grain_Rows.f k ([] : List (List (S45)))).bind fun bt320=>(if (bt316.2 != ((x0.length : Int) == (x1.length : Int)))=true then (thresherlaw10_GrainOdd.j2 k x0 x1 x5 bt316.1 bt316.2 true) else (if bt320.2=true then (thresherlaw10_GrainOdd.j2 k x0 x1 x5 bt316.1 bt316.2 true) else ((grain_Column.f k (([(([] : List (S45)))] : List (List (S45)))) 0).bind fun t330=>(if (t330.length : Int)=0 then ((grain_Column.f k (([(([(⟨0,(⟨#[]⟩ : ByteArray)⟩ : S45)] : List (S45)))] : List (List (S45)))) (-1)).bind fun t339=>(thresherlaw10_GrainOdd.j2 k x0 x1 x5 bt316.1 bt316.2 ((t339.length : Int) != 0))) else (thresherlaw10_GrainOdd.j2 k x0 x1 x5 bt316.1 bt316.2 true))))))
def thresherlaw10_GrainOdd.j2 : Nat→List (S45)→List (S45)→Bool→List (List (S45))→Bool→Bool→Option (Bool)
 | 0,_,_,_,_,_,_=>none
 | k + 1,x0,x1,x5,x6,x7,x58=>if x58=true then (some false) else (if x7=true then ((grain_Column.f k x6 0).bind fun t342=>((thresherref07_Same.f k t342 x0).bind fun t345=>((grain_Column.f k x6 1).bind fun t346=>((thresherref07_Same.f k t346 x1).bind fun t349=>(if x5=true then (if (x6.length : Int)=(x0.length : Int) then (if t345=true then (some t349) else (some false)) else (some false)) else (some false)))))) else (if x5=true then (some ((x6.length : Int) == 0)) else (some false)))
end
def thresherlaw10_GrainOdd.f (k : Nat) (l0 : List (S45)) (l1 : List (S45)) : Option (Bool):=(thresherlaw10_shown.f k).bind fun t302=>(if (l0.length : Int) > 60 then (if 60≤(l0.length : Int) then (thresherlaw10_GrainOdd.j0 k (l0.take 60) l1 t302) else (none)) else (thresherlaw10_GrainOdd.j0 k l0 l1 t302))
theorem thresherlaw10_GrainOdd.mono_l : ∀ k,(∀ y0 y1 y2,LeO (thresherlaw10_GrainOdd.j0 k y0 y1 y2) (thresherlaw10_GrainOdd.j0 (k + 1) y0 y1 y2))∧(∀ y0 y1 y2,LeO (thresherlaw10_GrainOdd.j1 k y0 y1 y2) (thresherlaw10_GrainOdd.j1 (k + 1) y0 y1 y2))∧(∀ y0 y1 y2 y3 y4 y5,LeO (thresherlaw10_GrainOdd.j2 k y0 y1 y2 y3 y4 y5) (thresherlaw10_GrainOdd.j2 (k + 1) y0 y1 y2 y3 y4 y5))
 | 0=>⟨fun _ _ _ r h=>by simp [thresherlaw10_GrainOdd.j0] at h,fun _ _ _ r h=>by simp [thresherlaw10_GrainOdd.j1] at h,fun _ _ _ _ _ _ r h=>by simp [thresherlaw10_GrainOdd.j2] at h⟩
 | k + 1=>by
  obtain ⟨ih0,ih1,ih2⟩:=thresherlaw10_GrainOdd.mono_l k
  refine ⟨?_,?_,?_⟩
  ·intro y0 y1 y2
   unfold thresherlaw10_GrainOdd.j0
   repeat' first
   | (with_reducible exact ih0 _ _ _)
   | (with_reducible exact ih1 _ _ _)
   | (with_reducible exact ih2 _ _ _ _ _ _)
   | (with_reducible exact grain_Column.mono _ _ _)
   | (with_reducible exact grain_Rows.mono _ _)
   | (with_reducible exact thresherlaw10_shown.mono _)
   | (with_reducible exact thresherref07_Same.mono _ _ _)
   | (with_reducible exact LeO.refl _)
   | (with_reducible exact LeO.none _)
   | (with_reducible refine LeO.ite ?_ ?_)
   | (with_reducible refine LeO.bind ?_ (fun _=>?_))
   | exact ih0 _ _ _
   | exact ih1 _ _ _
   | exact ih2 _ _ _ _ _ _
   | exact grain_Column.mono _ _ _
   | exact grain_Rows.mono _ _
   | exact thresherlaw10_shown.mono _
   | exact thresherref07_Same.mono _ _ _
   | exact LeO.none _
   | refine LeO.ite ?_ ?_
   | refine LeO.bind ?_ (fun _=>?_)
  ·intro y0 y1 y2
   unfold thresherlaw10_GrainOdd.j1
   repeat' first
   | (with_reducible exact ih0 _ _ _)
   | (with_reducible exact ih1 _ _ _)
   | (with_reducible exact ih2 _ _ _ _ _ _)
   | (with_reducible exact grain_Column.mono _ _ _)
   | (with_reducible exact grain_Rows.mono _ _)
   | (with_reducible exact thresherlaw10_shown.mono _)
   | (with_reducible exact thresherref07_Same.mono _ _ _)
   | (with_reducible exact LeO.refl _)
   | (with_reducible exact LeO.none _)
   | (with_reducible refine LeO.ite ?_ ?_)
   | (with_reducible refine LeO.bind ?_ (fun _=>?_))
   | exact ih0 _ _ _
   | exact ih1 _ _ _
   | exact ih2 _ _ _ _ _ _
   | exact grain_Column.mono _ _ _
   | exact grain_Rows.mono _ _
   | exact thresherlaw10_shown.mono _
   | exact thresherref07_Same.mono _ _ _
   | exact LeO.none _
   | refine LeO.ite ?_ ?_
   | refine LeO.bind ?_ (fun _=>?_)
  ·intro y0 y1 y2 y3 y4 y5
   unfold thresherlaw10_GrainOdd.j2
   repeat' first
   | (with_reducible exact ih0 _ _ _)
   | (with_reducible exact ih1 _ _ _)
   | (with_reducible exact ih2 _ _ _ _ _ _)
   | (with_reducible exact grain_Column.mono _ _ _)
   | (with_reducible exact grain_Rows.mono _ _)
   | (with_reducible exact thresherlaw10_shown.mono _)
   | (with_reducible exact thresherref07_Same.mono _ _ _)
   | (with_reducible exact LeO.refl _)
   | (with_reducible exact LeO.none _)
   | (with_reducible refine LeO.ite ?_ ?_)
   | (with_reducible refine LeO.bind ?_ (fun _=>?_))
   | exact ih0 _ _ _
   | exact ih1 _ _ _
   | exact ih2 _ _ _ _ _ _
   | exact grain_Column.mono _ _ _
   | exact grain_Rows.mono _ _
   | exact thresherlaw10_shown.mono _
   | exact thresherref07_Same.mono _ _ _
   | exact LeO.none _
   | refine LeO.ite ?_ ?_
   | refine LeO.bind ?_ (fun _=>?_)
theorem thresherlaw10_GrainOdd.mono : ∀ a0 a1 k,LeO (thresherlaw10_GrainOdd.f k a0 a1) (thresherlaw10_GrainOdd.f (k + 1) a0 a1):=by
 intro a0 a1 k
 obtain ⟨ih0,ih1,ih2⟩:=thresherlaw10_GrainOdd.mono_l k
 unfold thresherlaw10_GrainOdd.f
 repeat' first
   | (with_reducible exact ih0 _ _ _)
   | (with_reducible exact ih1 _ _ _)
   | (with_reducible exact ih2 _ _ _ _ _ _)
   | (with_reducible exact grain_Column.mono _ _ _)
   | (with_reducible exact grain_Rows.mono _ _)
   | (with_reducible exact thresherlaw10_shown.mono _)
   | (with_reducible exact thresherref07_Same.mono _ _ _)
   | (with_reducible exact LeO.refl _)
   | (with_reducible exact LeO.none _)
   | (with_reducible refine LeO.ite ?_ ?_)
   | (with_reducible refine LeO.bind ?_ (fun _=>?_))
   | exact ih0 _ _ _
   | exact ih1 _ _ _
   | exact ih2 _ _ _ _ _ _
   | exact grain_Column.mono _ _ _
   | exact grain_Rows.mono _ _
   | exact thresherlaw10_shown.mono _
   | exact thresherref07_Same.mono _ _ _
   | exact LeO.none _
   | refine LeO.ite ?_ ?_
   | refine LeO.bind ?_ (fun _=>?_)
set_option maxHeartbeats 8000000 in
set_option maxRecDepth 100000 in
theorem thresherlaw10_GrainOdd.calls (k : Nat) (P0_ : Nat→Prop) (A0 : Option Addr) (c0 : Nat) (l0 : List (S45)) (P1_ : Nat→Prop) (A1 : Option Addr) (c1 : Nat) (l1 : List (S45)) (r : Bool) (w : World) (hs0 : Kd.V k45 45 w w.heap.size (fun k_=>P0_ k_) (.slice A0 l0.length c0) l0) (hs1 : Kd.V k45 45 w w.heap.size (fun k_=>P1_ k_) (.slice A1 l1.length c1) l1) (h : thresherlaw10_GrainOdd.f k l0 l1=some r) :
  Calls Try.prog 4 #[.slice A0 l0.length c0,.slice A1 l1.length c1] w fun e w'=>e=.returned (.bool r)∧Below w.heap.size w w':=by
 have hu45:=Try.underlying45
 have HO0:=Aside0.mk (show Kd.V k45 45 w w.heap.size (fun k_=>((P0_ k_ ∨ P1_ k_) ∨ w.heap.size≤k_)) (.slice A0 l0.length c0) l0 from Kd.V_mono hs0 (fun k_ hk=>.inl (.inl hk)))
 have HO1:=Aside0.mk (show Kd.V k45 45 w w.heap.size (fun k_=>((P0_ k_ ∨ P1_ k_) ∨ w.heap.size≤k_)) (.slice A1 l1.length c1) l1 from Kd.V_mono hs1 (fun k_ hk=>.inl (.inr hk)))
 have HB:=Aside0.mk (Below.refl w.heap.size w)
 have H : ((thresherlaw10_shown.f k).bind fun t302=>(if (l0.length : Int) > 60 then (if 60≤(l0.length : Int) then (thresherlaw10_GrainOdd.j0 k (l0.take 60) l1 t302) else (none)) else (thresherlaw10_GrainOdd.j0 k l0 l1 t302)))=some r:=h
 clear h
 replace H:=Option.bind_eq_some_iff.mp H
 obtain ⟨t302,A30,H⟩:=H
 replace H : (if (l0.length : Int) > 60 then (if 60≤(l0.length : Int) then (thresherlaw10_GrainOdd.j0 k (l0.take 60) l1 t302) else (none)) else (thresherlaw10_GrainOdd.j0 k l0 l1 t302))=some r:=H
 have A3:=Aside0.mk A30
 clear A30
 have HC4:=Aside0.mk H
 clear H
 go_enter Try.func4,Try.ntmps4
 go_upto_if 15 with (first|((with_reducible refine gate_callee (f:=7) rfl ?_);refine goesL_ (some 12) rfl rfl Try.func7 (by kernel_rfl) rfl #[] rfl (by (try simp only [List.map_toArray,List.map_cons,List.map_nil]);first|done|rfl|(simp only [List.length_drop,List.length_take];rfl)) ?_;(with_reducible refine (thresherlaw10_shown.calls k  t302 _ A3.out).mono ?_);rintro e w5 ⟨rfl,hb⟩;refine ⟨_,rfl,?_⟩;have n0_:=Aside0.mk (Kd.V_below (V_up HO0.out) hb);have n1_:=Aside0.mk (Kd.V_below (V_up HO1.out) hb);have n2_:=Aside0.mk (below_step (below_up HB.out) hb);clear HO0;clear HO1;clear HB;have HO0:=n0_;have HO1:=n1_;have HB:=n2_;clear n0_ n1_ n2_;(try clear hb);(try clear hb2);(try clear hk);(try clear hi)))
 (try simp only [Act.put,List.setIfInBounds_toArray,List.set_cons_zero,List.set_cons_succ])
 go_cut [0] (fun v0 wc=>∃ (kq : Nat) (x0_3 : List (S45)),Aside0 (thresherlaw10_GrainOdd.j0 kq x0_3 l1 t302=some r)∧Aside0 (kq≤k)∧Aside0 (Kd.V k45 45 wc w.heap.size (fun k_=>((P0_ k_ ∨ P1_ k_) ∨ w.heap.size≤k_)) v0 x0_3)∧Aside0 (Kd.V k45 45 wc w.heap.size (fun k_=>((P0_ k_ ∨ P1_ k_) ∨ w.heap.size≤k_)) (.slice A1 l1.length c1) l1)∧Aside0 (Below w.heap.size w wc))
 case first =>
  have H:=HC4.out
  clear HC4
  by_cases c6 : (l0.length : Int) > 60
  ·rw [if_pos c6] at H
   have c6b0 : decide (60 < (l0.length : Int))=true:=decide_eq_true c6
   have c6b1 : decide (60 < l0.length)=true:=decide_eq_true (by omega)
   clear c6
   (first|rw [c6b0]|(simp only [i64_w,i32_w];rw [c6b0])|skip)
   by_cases c7 : 60≤(l0.length : Int)
   ·rw [if_pos c7] at H
    have c7b0:=eq_true c7
    have c7b1 : decide (60≤(l0.length : Int))=true:=decide_eq_true c7
    clear c7
    obtain ⟨y303,hy303⟩ : ∃ y_ : List (S45),y_=(l0.take 60):=⟨_,rfl⟩
    replace H : (thresherlaw10_GrainOdd.j0 k y303 l1 t302)=some r:=by first|(rw [hy303];with_reducible exact H)|(have H2_:=(Option.bind_some _ _).symm.trans H;rw [hy303];with_reducible exact H2_)|(have H2_:=(Option.bind_some _ _).symm.trans H;with_reducible exact H2_)|with_reducible exact H|(rw [hy303];exact H)|exact H
    have Ny303:=Aside0.mk hy303
    clear hy303
    have H':=Aside0.mk H
    clear H
    have q8 : (60 : Int)≤((l0.length : Int) : Int):=of_decide_eq_true (by first|(with_reducible assumption)|assumption)
    obtain ⟨i08,hi08,_,hsz8,_⟩:=info_parts info45
    have hroom8 : l0.length≤c0:=(Kd.V_reads' HO0.out).2.1
    have hC8 : Kd.F k45 _ _ A0 l0.length l0:=(Kd.V_at (base:=w.heap.size) HO0.out).2.2
    have hcut8:=cut_to (P:=Try.prog) 37 45 .i64 Try.underlying37 hi08 A0 l0.length c0 60 (by omega) q8 hroom8
    have hr8:=Kd.F_take (m:=60) hC8 (by omega)
    have hy8 : y303.length=(60 : Int).toNat:=(by rw [Ny303.out,List.length_take];omega)
    rw [← Ny303.out] at hr8
    rw [← hy8] at hcut8
    have HO307:=Aside0.mk (show Kd.V k45 45 _ w.heap.size _ (.slice A0 y303.length c0) y303 from Kd.V_mk (by omega) hr8)
    have HC307:=Aside0.mk (show y303.length≤c0 from by omega)
    clear hr8 hC8 hroom8 hi08 hsz8
    have KY8:=Aside0.mk hy8
    clear hy8
    replace q8:=eq_true q8
    go_wp2
    go_meet
    case rel=>exact ⟨_,(y303),(by first|exact H'|(subst_vars;exact H')),⟨by first|omega|exact Nat.le_refl _⟩,⟨by (with_reducible repeat (first|apply Kd.V_alloc|apply Kd.V_drewN|apply Kd.V_drew));exact HO307.out⟩,⟨by (with_reducible repeat (first|apply Kd.V_alloc|apply Kd.V_drewN|apply Kd.V_drew));exact HO1.out⟩,⟨by repeat (first|(with_reducible first|exact HB.out|apply below_alloc|apply pw_below_drewN|apply below_drew1)|exact HB.out)⟩⟩
   ·rw [if_neg c7] at H
    exact absurd H (by simp)
  ·rw [if_neg c6] at H
   have c6b0 : decide (60 < (l0.length : Int))=false:=decide_eq_false c6
   have c6b1 : decide (60 < l0.length)=false:=decide_eq_false (by omega)
   clear c6
   (first|rw [c6b0]|(simp only [i64_w,i32_w];rw [c6b0])|skip)
   have H':=Aside0.mk H
   clear H
   go_wp2
   go_meet
   case rel=>exact ⟨_,(l0),(by first|exact H'|(subst_vars;exact H')),⟨by first|omega|exact Nat.le_refl _⟩,⟨by (with_reducible repeat (first|apply Kd.V_alloc|apply Kd.V_drewN|apply Kd.V_drew));exact HO0.out⟩,⟨by (with_reducible repeat (first|apply Kd.V_alloc|apply Kd.V_drewN|apply Kd.V_drew));exact HO1.out⟩,⟨by repeat (first|(with_reducible first|exact HB.out|apply below_alloc|apply pw_below_drewN|apply below_drew1)|exact HB.out)⟩⟩
 case rest =>
  clear HC4
  try clear c1
  try clear p2
  try clear c4
  try clear c6
  try clear c6b0
  try clear c6b1
  try clear c7
  try clear c7b0
  try clear c7b1
  try clear q8
  try clear q8
  obtain ⟨kq,x0_3,HA,HJ3,HO_0,HO_1,HB⟩:=hcut
  cases kq with
  | zero=>exact absurd HA.out (by simp [thresherlaw10_GrainOdd.j0])
  | succ kj3 =>
   have H:=HA.out
   clear HA
   simp only [thresherlaw10_GrainOdd.j0] at H
   have HC9:=Aside0.mk H
   clear H
   go_upto_if 20 with (fail)
   go_cut [1] (fun v1 wc=>∃ (kq : Nat) (x1_8 : List (S45)),Aside0 (thresherlaw10_GrainOdd.j1 kq x0_3 x1_8 t302=some r)∧Aside0 (kq≤kj3)∧Aside0 (Kd.V k45 45 wc w.heap.size (fun k_=>((P0_ k_ ∨ P1_ k_) ∨ w.heap.size≤k_)) u0 x0_3)∧Aside0 (Kd.V k45 45 wc w.heap.size (fun k_=>((P0_ k_ ∨ P1_ k_) ∨ w.heap.size≤k_)) v1 x1_8)∧Aside0 (Below w.heap.size w wc))
   case first =>
    have H:=HC9.out
    clear HC9
    by_cases c10 : (l1.length : Int) > 60
    ·rw [if_pos c10] at H
     have c10b0 : decide (60 < (l1.length : Int))=true:=decide_eq_true c10
     have c10b1 : decide (60 < l1.length)=true:=decide_eq_true (by omega)
     clear c10
     (first|rw [c10b0]|(simp only [i64_w,i32_w];rw [c10b0])|skip)
     by_cases c11 : 60≤(l1.length : Int)
     ·rw [if_pos c11] at H
      have c11b0:=eq_true c11
      have c11b1 : decide (60≤(l1.length : Int))=true:=decide_eq_true c11
      clear c11
      obtain ⟨y308,hy308⟩ : ∃ y_ : List (S45),y_=(l1.take 60):=⟨_,rfl⟩
      replace H : (thresherlaw10_GrainOdd.j1 kj3 x0_3 y308 t302)=some r:=by first|(rw [hy308];with_reducible exact H)|(have H2_:=(Option.bind_some _ _).symm.trans H;rw [hy308];with_reducible exact H2_)|(have H2_:=(Option.bind_some _ _).symm.trans H;with_reducible exact H2_)|with_reducible exact H|(rw [hy308];exact H)|exact H
      have Ny308:=Aside0.mk hy308
      clear hy308
      have H':=Aside0.mk H
      clear H
      have q12 : (60 : Int)≤((l1.length : Int) : Int):=of_decide_eq_true (by first|(with_reducible assumption)|assumption)
      obtain ⟨i012,hi012,_,hsz12,_⟩:=info_parts info45
      have hroom12 : l1.length≤c1:=(Kd.V_reads' HO_1.out).2.1
      have hC12 : Kd.F k45 _ _ A1 l1.length l1:=(Kd.V_at (base:=w.heap.size) HO_1.out).2.2
      have hcut12:=cut_to (P:=Try.prog) 37 45 .i64 Try.underlying37 hi012 A1 l1.length c1 60 (by omega) q12 hroom12
      have hr12:=Kd.F_take (m:=60) hC12 (by omega)
      have hy12 : y308.length=(60 : Int).toNat:=(by rw [Ny308.out,List.length_take];omega)
      rw [← Ny308.out] at hr12
      rw [← hy12] at hcut12
      have HO312:=Aside0.mk (show Kd.V k45 45 _ w.heap.size _ (.slice A1 y308.length c1) y308 from Kd.V_mk (by omega) hr12)
      have HC312:=Aside0.mk (show y308.length≤c1 from by omega)
      clear hr12 hC12 hroom12 hi012 hsz12
      have KY12:=Aside0.mk hy12
      clear hy12
      replace q12:=eq_true q12
      go_wp2
      go_meet
      case rel=>exact ⟨_,(y308),(by first|exact H'|(subst_vars;exact H')),⟨by have:=HJ3.out;first|omega|exact Nat.le_refl _⟩,⟨by (with_reducible repeat (first|apply Kd.V_alloc|apply Kd.V_drewN|apply Kd.V_drew));exact HO_0.out⟩,⟨by (with_reducible repeat (first|apply Kd.V_alloc|apply Kd.V_drewN|apply Kd.V_drew));exact HO312.out⟩,⟨by repeat (first|(with_reducible first|exact HB.out|apply below_alloc|apply pw_below_drewN|apply below_drew1)|exact HB.out)⟩⟩
     ·rw [if_neg c11] at H
      exact absurd H (by simp)
    ·rw [if_neg c10] at H
     have c10b0 : decide (60 < (l1.length : Int))=false:=decide_eq_false c10
     have c10b1 : decide (60 < l1.length)=false:=decide_eq_false (by omega)
     clear c10
     (first|rw [c10b0]|(simp only [i64_w,i32_w];rw [c10b0])|skip)
     have H':=Aside0.mk H
     clear H
     go_wp2
     go_meet
     case rel=>exact ⟨_,(l1),(by first|exact H'|(subst_vars;exact H')),⟨by have:=HJ3.out;first|omega|exact Nat.le_refl _⟩,⟨by (with_reducible repeat (first|apply Kd.V_alloc|apply Kd.V_drewN|apply Kd.V_drew));exact HO_0.out⟩,⟨by (with_reducible repeat (first|apply Kd.V_alloc|apply Kd.V_drewN|apply Kd.V_drew));exact HO_1.out⟩,⟨by repeat (first|(with_reducible first|exact HB.out|apply below_alloc|apply pw_below_drewN|apply below_drew1)|exact HB.out)⟩⟩
   case rest =>
    clear HC9
    try clear c1
    try clear q1
    try clear p2
    try clear c4
    try clear c6
    try clear c6b0
    try clear c6b1
    try clear c7
    try clear c7b0
    try clear c7b1
    try clear q8
    try clear c10
    try clear c10b0
    try clear c10b1
    try clear c11
    try clear c11b0
    try clear c11b1
    try clear q12
    try clear p2
    try clear q12
    try clear q8
    obtain ⟨kq,x1_8,HA,HJ8,HO_0,HO_1,HB⟩:=hcut
    cases kq with
    | zero=>exact absurd HA.out (by simp [thresherlaw10_GrainOdd.j1])
    | succ kj8 =>
     have H:=HA.out
     clear HA
     simp only [thresherlaw10_GrainOdd.j1] at H
     obtain ⟨y313,hy313⟩ : ∃ y_ : List (List (S45)),y_=(([x0_3,x1_8] : List (List (S45)))):=⟨_,rfl⟩
     replace H : ((grain_Rows.f kj8 y313).bind fun bt316=>((grain_Rows.f kj8 ([] : List (List (S45)))).bind fun bt320=>(if (bt316.2 != ((x0_3.length : Int) == (x1_8.length : Int)))=true then (thresherlaw10_GrainOdd.j2 kj8 x0_3 x1_8 t302 bt316.1 bt316.2 true) else (if bt320.2=true then (thresherlaw10_GrainOdd.j2 kj8 x0_3 x1_8 t302 bt316.1 bt316.2 true) else ((grain_Column.f kj8 (([(([] : List (S45)))] : List (List (S45)))) 0).bind fun t330=>(if (t330.length : Int)=0 then ((grain_Column.f kj8 (([(([(⟨0,(⟨#[]⟩ : ByteArray)⟩ : S45)] : List (S45)))] : List (List (S45)))) (-1)).bind fun t339=>(thresherlaw10_GrainOdd.j2 kj8 x0_3 x1_8 t302 bt316.1 bt316.2 ((t339.length : Int) != 0))) else (thresherlaw10_GrainOdd.j2 kj8 x0_3 x1_8 t302 bt316.1 bt316.2 true)))))))=some r:=by first|(rw [hy313];with_reducible exact H)|(have H2_:=(Option.bind_some _ _).symm.trans H;rw [hy313];with_reducible exact H2_)|(have H2_:=(Option.bind_some _ _).symm.trans H;with_reducible exact H2_)|with_reducible exact H|(rw [hy313];exact H)|exact H
     have Ny313:=Aside0.mk hy313
     clear hy313
     replace H:=Option.bind_eq_some_iff.mp H
     obtain ⟨⟨t316,t317⟩,A130,H⟩:=H
     replace H : ((grain_Rows.f kj8 ([] : List (List (S45)))).bind fun bt320=>(if (t317 != ((x0_3.length : Int) == (x1_8.length : Int)))=true then (thresherlaw10_GrainOdd.j2 kj8 x0_3 x1_8 t302 t316 t317 true) else (if bt320.2=true then (thresherlaw10_GrainOdd.j2 kj8 x0_3 x1_8 t302 t316 t317 true) else ((grain_Column.f kj8 (([(([] : List (S45)))] : List (List (S45)))) 0).bind fun t330=>(if (t330.length : Int)=0 then ((grain_Column.f kj8 (([(([(⟨0,(⟨#[]⟩ : ByteArray)⟩ : S45)] : List (S45)))] : List (List (S45)))) (-1)).bind fun t339=>(thresherlaw10_GrainOdd.j2 kj8 x0_3 x1_8 t302 t316 t317 ((t339.length : Int) != 0))) else (thresherlaw10_GrainOdd.j2 kj8 x0_3 x1_8 t302 t316 t317 true))))))=some r:=H
     have A13:=Aside0.mk A130
     clear A130
     replace H:=Option.bind_eq_some_iff.mp H
     obtain ⟨⟨t320,t321⟩,A140,H⟩:=H
     replace H : (if (t317 != ((x0_3.length : Int) == (x1_8.length : Int)))=true then (thresherlaw10_GrainOdd.j2 kj8 x0_3 x1_8 t302 t316 t317 true) else (if t321=true then (thresherlaw10_GrainOdd.j2 kj8 x0_3 x1_8 t302 t316 t317 true) else ((grain_Column.f kj8 (([(([] : List (S45)))] : List (List (S45)))) 0).bind fun t330=>(if (t330.length : Int)=0 then ((grain_Column.f kj8 (([(([(⟨0,(⟨#[]⟩ : ByteArray)⟩ : S45)] : List (S45)))] : List (List (S45)))) (-1)).bind fun t339=>(thresherlaw10_GrainOdd.j2 kj8 x0_3 x1_8 t302 t316 t317 ((t339.length : Int) != 0))) else (thresherlaw10_GrainOdd.j2 kj8 x0_3 x1_8 t302 t316 t317 true)))))=some r:=H
     have A14:=Aside0.mk A140
     clear A140
     have HC15:=Aside0.mk H
     clear H
     obtain ⟨Ao16,co16,eo16⟩:=Kd.V_slice HO_0.out
     subst eo16
     obtain ⟨Ao17,co17,eo17⟩:=Kd.V_slice HO_1.out
     subst eo17
     go_upto_region 8 with (first|((with_reducible refine gate_dst (N:=26) rfl ?_);(try (refine gate_guard (by rfl) ?_;dsimp only));refine Kd.N_lit (Kd.slice 45 k45) _ 37 ?hg (N':=26) ?hd (xs:=([x0_3,x1_8] : List (List (S45)))) (inner:=[.slice Ao16 x0_3.length co16,.slice Ao17 x1_8.length co17]) (ok:=(fun k_=>((P0_ k_ ∨ P1_ k_) ∨ w.heap.size≤k_))) (okp:=(fun k_=>((P0_ k_ ∨ P1_ k_) ∨ w.heap.size≤k_))) ?hr ?hp (fun _ hk=>hk) ((show ∀ k_,wc.heap.size≤k_→(fun k_=>((P0_ k_ ∨ P1_ k_) ∨ w.heap.size≤k_)) k_ from fun k_ hk=>(.inr (Nat.le_trans (below_size (below_up HB.out)) hk))) _ (Nat.le_refl _)) (Below.refl _ _) (Nat.le_refl _) (by simp) ?_;(case hd=>rfl);(case hg=>rfl);(case hr=>first|(go_simp;done)|(go_simp;rfl));(case hp=>exact (Reps.one (show Kd.FK (Kd.slice 45 k45) _ _ x0_3 [.slice Ao16 x0_3.length co16] from (Kd.FK_slice_mk (Kd.V_reads' (Kd.V_mono (ok':=(fun k_=>((P0_ k_ ∨ P1_ k_) ∨ w.heap.size≤k_))) (HO_0.out) (fun k_ hk=>hk))).2.1 (Kd.V_F (Kd.V_mono (ok':=(fun k_=>((P0_ k_ ∨ P1_ k_) ∨ w.heap.size≤k_))) (HO_0.out) (fun k_ hk=>hk))))) (Reps.one (show Kd.FK (Kd.slice 45 k45) _ _ x1_8 [.slice Ao17 x1_8.length co17] from (Kd.FK_slice_mk (Kd.V_reads' (Kd.V_mono (ok':=(fun k_=>((P0_ k_ ∨ P1_ k_) ∨ w.heap.size≤k_))) (HO_1.out) (fun k_ hk=>hk))).2.1 (Kd.V_F (Kd.V_mono (ok':=(fun k_=>((P0_ k_ ∨ P1_ k_) ∨ w.heap.size≤k_))) (HO_1.out) (fun k_ hk=>hk))))) (Reps.none _ _))));intro v314 w18 ho19 hb hg_ hnew_;clear hg_ hnew_;(first|rw [← Ny313.out] at ho19|(simp only [Int.reduceToNat] at ho19;rw [← Ny313.out] at ho19));have n0_:=Aside0.mk (Kd.V_elder' (V_up HO_0.out) (Kd.N_base ho19) hb);have n1_:=Aside0.mk (Kd.V_elder' (V_up HO_1.out) (Kd.N_base ho19) hb);have n2_:=Aside0.mk (Kd.N_lower ho19 (below_size (below_up HB.out)));have n3_:=Aside0.mk (below_step (below_up HB.out) hb);clear HO_0;clear HO_1;clear HB;have HO_0:=n0_;have HO_1:=n1_;have HO315:=n2_;have HB:=n3_;clear n0_ n1_ n2_ n3_;clear hb ho19;obtain ⟨Ao20,co20,eo20⟩:=Kd.N_slice HO315.out;subst eo20)|((with_reducible refine gate_callee (f:=15) rfl ?_);refine goesL_ (some 27) rfl rfl Try.func15 (by kernel_rfl) rfl #[.slice Ao20 y313.length co20] rfl (by (try simp only [List.map_toArray,List.map_cons,List.map_nil]);first|done|rfl|(simp only [List.length_drop,List.length_take];rfl)) ?_;(with_reducible refine (grain_Rows.calls kj8 _ _ y313 t316 t317 _ ?side1 ?side2 A13.out).mono ?_);(case side1=>repeat (first|exact (Kd.N_reads' HO315.out).2.2|(with_reducible refine Kd.C_alloc ?_ _)|(with_reducible refine Kd.C_drewN ?_ _)|(with_reducible refine Kd.C_drew ?_)));(case side2=>exact (Kd.N_reads' HO315.out).2.1);rintro e w21 ⟨v318,rfl,ho0,hb⟩;refine ⟨_,rfl,?_⟩;have n0_:=Aside0.mk (Kd.V_elder' (V_up HO_0.out) (by first|exact Kd.N_base ho0|exact Kd.S_base ho0) hb);have n1_:=Aside0.mk (Kd.V_elder' (V_up HO_1.out) (by first|exact Kd.N_base ho0|exact Kd.S_base ho0) hb);have n2_:=Aside0.mk (Kd.N_elder' (N_up HO315.out) (by first|exact Kd.N_base ho0|exact Kd.S_base ho0) hb);have n3_:=Aside0.mk (Kd.N_lower (Kd.N_mono (ok':=fun k_=>((P0_ k_ ∨ P1_ k_) ∨ w.heap.size≤k_)∧some k_≠(.slice Ao20 y313.length co20 : Value).ownBlock) (Kd.S_N (Kd.S_bound ho0)) (fun k_ hk_=>⟨(.inr (Nat.le_trans (below_size (below_up HB.out)) hk_.2.1)),(Kd.fresh' (Kd.N_lt (N_up HO315.out)) k_ hk_.2.1)⟩)) (below_size (below_up HB.out)));have n4_:=Aside0.mk (below_step (below_up HB.out) hb);clear HO_0;clear HO_1;clear HO315;clear HB;have HO_0:=n0_;have HO_1:=n1_;have HO315:=n2_;have HO319:=n3_;have HB:=n4_;clear n0_ n1_ n2_ n3_ n4_;(try clear hb);(try clear hb2);(try clear hk);(try clear hi);(try clear ho0))|((with_reducible refine gate_callee (f:=15) rfl ?_);refine goesL_ (some 31) rfl rfl Try.func15 (by kernel_rfl) rfl #[.slice none 0 0] rfl (by (try simp only [List.map_toArray,List.map_cons,List.map_nil]);first|done|rfl|(simp only [List.length_drop,List.length_take];rfl)) ?_;(refine (grain_Rows.calls kj8 _ _ ([] : List (List (S45))) t320 t321 _ ?side1 ?side2 A14.out).mono ?_);(case side1=>exact Kd.C_nil _ _);(case side2=>exact Nat.le_refl _);rintro e w22 ⟨v322,rfl,ho0,hb⟩;refine ⟨_,rfl,?_⟩;have n0_:=Aside0.mk (Kd.V_elder' (V_up HO_0.out) (by first|exact Kd.N_base ho0|exact Kd.S_base ho0) hb);have n1_:=Aside0.mk (Kd.V_elder' (V_up HO_1.out) (by first|exact Kd.N_base ho0|exact Kd.S_base ho0) hb);have n2_:=Aside0.mk (Kd.N_elder' (N_up HO315.out) (by first|exact Kd.N_base ho0|exact Kd.S_base ho0) hb);have n3_:=Aside0.mk (Kd.N_elder' (N_up HO319.out) (by first|exact Kd.N_base ho0|exact Kd.S_base ho0) hb);have n4_:=Aside0.mk (Kd.N_lower (Kd.N_mono (ok':=fun k_=>((P0_ k_ ∨ P1_ k_) ∨ w.heap.size≤k_)∧some k_≠(.slice Ao20 y313.length co20 : Value).ownBlock∧some k_≠(v318 : Value).ownBlock) (Kd.S_N (Kd.S_bound ho0)) (fun k_ hk_=>⟨(.inr (Nat.le_trans (below_size (below_up HB.out)) hk_.2.1)),(Kd.fresh' (Kd.N_lt (N_up HO315.out)) k_ hk_.2.1),(Kd.fresh' (Kd.N_lt (N_up HO319.out)) k_ hk_.2.1)⟩)) (below_size (below_up HB.out)));have n5_:=Aside0.mk (below_step (below_up HB.out) hb);clear HO_0;clear HO_1;clear HO315;clear HO319;clear HB;have HO_0:=n0_;have HO_1:=n1_;have HO315:=n2_;have HO319:=n3_;have HO323:=n4_;have HB:=n5_;clear n0_ n1_ n2_ n3_ n4_ n5_;(try clear hb);(try clear hb2);(try clear hk);(try clear hi);(try clear ho0)))
     (try simp only [Act.put,List.setIfInBounds_toArray,List.set_cons_zero,List.set_cons_succ])
     go_cut [58] (fun v58 wc=>∃ (kq : Nat) (x58_14 : Bool),v58=.bool x58_14∧Aside0 (thresherlaw10_GrainOdd.j2 kq x0_3 x1_8 t302 t316 t317 x58_14=some r)∧Aside0 (kq≤kj8)∧Aside0 (Kd.V k45 45 wc w.heap.size (fun k_=>((P0_ k_ ∨ P1_ k_) ∨ w.heap.size≤k_)∧some k_≠(v318 : Value).ownBlock) (.slice Ao16 x0_3.length co16) x0_3)∧Aside0 (Kd.V k45 45 wc w.heap.size (fun k_=>((P0_ k_ ∨ P1_ k_) ∨ w.heap.size≤k_)∧some k_≠(v318 : Value).ownBlock) (.slice Ao17 x1_8.length co17) x1_8)∧Aside0 (Kd.N (Kd.slice 45 k45) 38 wc w.heap.size (fun k_=>((P0_ k_ ∨ P1_ k_) ∨ w.heap.size≤k_)) v318 t316)∧Aside0 (Below w.heap.size w wc))
     case first =>
      have H:=HC15.out
      clear HC15
      by_cases c23 : (t317 != ((x0_3.length : Int) == (x1_8.length : Int)))=true
      ·rw [if_pos c23] at H
       have c23b0 : (t317 != ((x0_3.length : Int) == (x1_8.length : Int)))=true:=c23
       (try (have c23b1 : decide (t317=((x0_3.length : Int) == (x1_8.length : Int)))=false:=by simpa using c23))
       (try (have c23b2 : (t317 == ((x0_3.length : Int) == (x1_8.length : Int)))=false:=by simpa using c23))
       (try (have c23b3 : ¬ (t317=((x0_3.length : Int) == (x1_8.length : Int))):=by simpa using c23))
       clear c23
       (first|rw [c23b0]|(simp only [i64_w,i32_w];rw [c23b0])|skip)
       have H':=Aside0.mk H
       clear H
       go_wp2
       go_meet
       case rel=>exact ⟨_,(true),(by first|rfl|(simp;done)|(simp [*];done)),(by first|exact H'|(subst_vars;exact H')),⟨by have:=HJ3.out;have:=HJ8.out;first|omega|exact Nat.le_refl _⟩,⟨by (with_reducible repeat (first|apply Kd.V_alloc|apply Kd.V_drewN|apply Kd.V_drew));exact Kd.V_mono HO_0.out (fun _ hk=>⟨hk.1.1.1,hk.1.2⟩)⟩,⟨by (with_reducible repeat (first|apply Kd.V_alloc|apply Kd.V_drewN|apply Kd.V_drew));exact Kd.V_mono HO_1.out (fun _ hk=>⟨hk.1.1.1,hk.1.2⟩)⟩,⟨by (with_reducible repeat (first|apply Kd.N_alloc|apply Kd.N_drewN|apply Kd.N_drew));exact Kd.N_mono HO319.out (fun _ hk=>hk.1.1)⟩,⟨by repeat (first|(with_reducible first|exact HB.out|apply below_alloc|apply pw_below_drewN|apply below_drew1)|exact HB.out)⟩⟩
      ·rw [if_neg c23] at H
       have c23b0 : (t317 != ((x0_3.length : Int) == (x1_8.length : Int)))=false:=by simpa using c23
       (try (have c23b1 : decide (t317=((x0_3.length : Int) == (x1_8.length : Int)))=true:=by simpa using c23))
       (try (have c23b2 : (t317 == ((x0_3.length : Int) == (x1_8.length : Int)))=true:=by simpa using c23))
       clear c23
       (first|rw [c23b0]|(simp only [i64_w,i32_w];rw [c23b0])|skip)
       by_cases c24 : t321=true
       ·subst c24
        have H1 : (thresherlaw10_GrainOdd.j2 kj8 x0_3 x1_8 t302 t316 t317 true)=some r:=by rw [if_pos rfl] at H;exact H
        clear H
        have H:=H1
        clear H1
        have H':=Aside0.mk H
        clear H
        go_wp2
        go_meet
        case rel=>exact ⟨_,(true),(by first|rfl|(simp;done)|(simp [*];done)),(by first|exact H'|(subst_vars;exact H')),⟨by have:=HJ3.out;have:=HJ8.out;first|omega|exact Nat.le_refl _⟩,⟨by (with_reducible repeat (first|apply Kd.V_alloc|apply Kd.V_drewN|apply Kd.V_drew));exact Kd.V_mono HO_0.out (fun _ hk=>⟨hk.1.1.1,hk.1.2⟩)⟩,⟨by (with_reducible repeat (first|apply Kd.V_alloc|apply Kd.V_drewN|apply Kd.V_drew));exact Kd.V_mono HO_1.out (fun _ hk=>⟨hk.1.1.1,hk.1.2⟩)⟩,⟨by (with_reducible repeat (first|apply Kd.N_alloc|apply Kd.N_drewN|apply Kd.N_drew));exact Kd.N_mono HO319.out (fun _ hk=>hk.1.1)⟩,⟨by repeat (first|(with_reducible first|exact HB.out|apply below_alloc|apply pw_below_drewN|apply below_drew1)|exact HB.out)⟩⟩
       ·replace c24:=Bool.eq_false_iff.mpr c24
        subst c24
        have H1 : ((grain_Column.f kj8 (([(([] : List (S45)))] : List (List (S45)))) 0).bind fun t330=>(if (t330.length : Int)=0 then ((grain_Column.f kj8 (([(([(⟨0,(⟨#[]⟩ : ByteArray)⟩ : S45)] : List (S45)))] : List (List (S45)))) (-1)).bind fun t339=>(thresherlaw10_GrainOdd.j2 kj8 x0_3 x1_8 t302 t316 t317 ((t339.length : Int) != 0))) else (thresherlaw10_GrainOdd.j2 kj8 x0_3 x1_8 t302 t316 t317 true)))=some r:=by rw [if_neg (show ¬ (false=true) by decide)] at H;exact H
        clear H
        have H:=H1
        clear H1
        obtain ⟨y324,hy324⟩ : ∃ y_ : List (S45),y_=(([] : List (S45))):=⟨_,rfl⟩
        replace H : ((grain_Column.f kj8 (([y324] : List (List (S45)))) 0).bind fun t330=>(if (t330.length : Int)=0 then ((grain_Column.f kj8 (([(([(⟨0,(⟨#[]⟩ : ByteArray)⟩ : S45)] : List (S45)))] : List (List (S45)))) (-1)).bind fun t339=>(thresherlaw10_GrainOdd.j2 kj8 x0_3 x1_8 t302 t316 t317 ((t339.length : Int) != 0))) else (thresherlaw10_GrainOdd.j2 kj8 x0_3 x1_8 t302 t316 t317 true)))=some r:=by first|(rw [hy324];with_reducible exact H)|(have H2_:=(Option.bind_some _ _).symm.trans H;rw [hy324];with_reducible exact H2_)|(have H2_:=(Option.bind_some _ _).symm.trans H;with_reducible exact H2_)|with_reducible exact H|(rw [hy324];exact H)|exact H
        have Ny324:=Aside0.mk hy324
        clear hy324
        obtain ⟨y327,hy327⟩ : ∃ y_ : List (List (S45)),y_=(([y324] : List (List (S45)))):=⟨_,rfl⟩
        replace H : ((grain_Column.f kj8 y327 0).bind fun t330=>(if (t330.length : Int)=0 then ((grain_Column.f kj8 (([(([(⟨0,(⟨#[]⟩ : ByteArray)⟩ : S45)] : List (S45)))] : List (List (S45)))) (-1)).bind fun t339=>(thresherlaw10_GrainOdd.j2 kj8 x0_3 x1_8 t302 t316 t317 ((t339.length : Int) != 0))) else (thresherlaw10_GrainOdd.j2 kj8 x0_3 x1_8 t302 t316 t317 true)))=some r:=by first|(rw [hy327];with_reducible exact H)|(have H2_:=(Option.bind_some _ _).symm.trans H;rw [hy327];with_reducible exact H2_)|(have H2_:=(Option.bind_some _ _).symm.trans H;with_reducible exact H2_)|with_reducible exact H|(rw [hy327];exact H)|exact H
        have Ny327:=Aside0.mk hy327
        clear hy327
        replace H:=Option.bind_eq_some_iff.mp H
        obtain ⟨t330,A250,H⟩:=H
        replace H : (if (t330.length : Int)=0 then ((grain_Column.f kj8 (([(([(⟨0,(⟨#[]⟩ : ByteArray)⟩ : S45)] : List (S45)))] : List (List (S45)))) (-1)).bind fun t339=>(thresherlaw10_GrainOdd.j2 kj8 x0_3 x1_8 t302 t316 t317 ((t339.length : Int) != 0))) else (thresherlaw10_GrainOdd.j2 kj8 x0_3 x1_8 t302 t316 t317 true))=some r:=H
        have A25:=Aside0.mk A250
        clear A250
        by_cases c26 : (t330.length : Int)=0
        ·rw [if_pos c26] at H
         have c26b0 : ((t330.length : Int) == 0)=true:=beq_iff_eq.mpr c26
         have c26b1 : ((t330.length : Int) != 0)=false:=bne_eq_false_iff_eq.mpr c26
         clear c26
         obtain ⟨y333,hy333⟩ : ∃ y_ : List (S45),y_=(([(⟨0,(⟨#[]⟩ : ByteArray)⟩ : S45)] : List (S45))):=⟨_,rfl⟩
         replace H : ((grain_Column.f kj8 (([y333] : List (List (S45)))) (-1)).bind fun t339=>(thresherlaw10_GrainOdd.j2 kj8 x0_3 x1_8 t302 t316 t317 ((t339.length : Int) != 0)))=some r:=by first|(rw [hy333];with_reducible exact H)|(have H2_:=(Option.bind_some _ _).symm.trans H;rw [hy333];with_reducible exact H2_)|(have H2_:=(Option.bind_some _ _).symm.trans H;with_reducible exact H2_)|with_reducible exact H|(rw [hy333];exact H)|exact H
         have Ny333:=Aside0.mk hy333
         clear hy333
         obtain ⟨y336,hy336⟩ : ∃ y_ : List (List (S45)),y_=(([y333] : List (List (S45)))):=⟨_,rfl⟩
         replace H : ((grain_Column.f kj8 y336 (-1)).bind fun t339=>(thresherlaw10_GrainOdd.j2 kj8 x0_3 x1_8 t302 t316 t317 ((t339.length : Int) != 0)))=some r:=by first|(rw [hy336];with_reducible exact H)|(have H2_:=(Option.bind_some _ _).symm.trans H;rw [hy336];with_reducible exact H2_)|(have H2_:=(Option.bind_some _ _).symm.trans H;with_reducible exact H2_)|with_reducible exact H|(rw [hy336];exact H)|exact H
         have Ny336:=Aside0.mk hy336
         clear hy336
         replace H:=Option.bind_eq_some_iff.mp H
         obtain ⟨t339,A270,H⟩:=H
         replace H : (thresherlaw10_GrainOdd.j2 kj8 x0_3 x1_8 t302 t316 t317 ((t339.length : Int) != 0))=some r:=H
         have A27:=Aside0.mk A270
         clear A270
         have H':=Aside0.mk H
         clear H
         go_wp2_with (first|((with_reducible refine gate_dst (N:=45) rfl ?_);(try (refine gate_guard (by rfl) ?_;dsimp only));refine Kd.R_lit k45 _ 45 ?hg (N:=45) ?hd (xs:=([] : List (S45))) (inner:=[]) (ok:=fun _=>True) (okp:=fun _=>True) ?hr ?hp (fun _ hk=>hk) trivial (Below.refl _ _) (Nat.le_refl _) (by simp) ?_;(case hd=>rfl);(case hg=>rfl);(case hr=>first|(go_simp;done)|(go_simp;rfl));(case hp=>exact (Reps.none _ _));intro v325 w28 ho29 hb hg_ hnew_;clear hg_ hnew_;(first|rw [← Ny324.out] at ho29|(simp only [Int.reduceToNat] at ho29;rw [← Ny324.out] at ho29));have n0_:=Aside0.mk (Kd.V_elder' (V_up HO_0.out) (Kd.R_base ho29) hb);have n1_:=Aside0.mk (Kd.V_elder' (V_up HO_1.out) (Kd.R_base ho29) hb);have n2_:=Aside0.mk (Kd.N_elder' (N_up HO315.out) (Kd.R_base ho29) hb);have n3_:=Aside0.mk (Kd.N_elder' (N_up HO319.out) (Kd.R_base ho29) hb);have n4_:=Aside0.mk (Kd.N_elder' (N_up HO323.out) (Kd.R_base ho29) hb);have n5_:=Aside0.mk (Kd.R_lower (Kd.R_newM (M:=fun k_=>(w.heap.size≤k_)) ho29 (below_size (below_up HB.out)) (fun k_ h_=>h_)) (below_size (below_up HB.out)));have n6_:=Aside0.mk (below_step (below_up HB.out) hb);clear HO_0;clear HO_1;clear HO315;clear HO319;clear HO323;clear HB;have HO_0:=n0_;have HO_1:=n1_;have HO315:=n2_;have HO319:=n3_;have HO323:=n4_;have HO326:=n5_;have HB:=n6_;clear n0_ n1_ n2_ n3_ n4_ n5_ n6_;clear hb ho29;obtain ⟨Ao30,co30,eo30⟩:=Kd.R_slice HO326.out;subst eo30)|((with_reducible refine gate_dst (N:=46) rfl ?_);(try (refine gate_guard (by rfl) ?_;dsimp only));refine Kd.N_lit (Kd.slice 45 k45) _ 38 ?hg (N':=46) ?hd (xs:=([y324] : List (List (S45)))) (inner:=[.slice Ao30 y324.length co30]) (ok:=(fun k_=>((P0_ k_ ∨ P1_ k_) ∨ w.heap.size≤k_)∧some k_≠(.slice Ao20 y313.length co20 : Value).ownBlock∧some k_≠(v318 : Value).ownBlock∧some k_≠(v322 : Value).ownBlock)) (okp:=(fun k_=>((P0_ k_ ∨ P1_ k_) ∨ w.heap.size≤k_)∧some k_≠(.slice Ao20 y313.length co20 : Value).ownBlock∧some k_≠(v318 : Value).ownBlock∧some k_≠(v322 : Value).ownBlock)) ?hr ?hp (fun _ hk=>hk) ((show ∀ k_,w28.heap.size≤k_→(fun k_=>((P0_ k_ ∨ P1_ k_) ∨ w.heap.size≤k_)∧some k_≠(.slice Ao20 y313.length co20 : Value).ownBlock∧some k_≠(v318 : Value).ownBlock∧some k_≠(v322 : Value).ownBlock) k_ from fun k_ hk=>⟨(.inr (Nat.le_trans (below_size (below_up HB.out)) hk)),Kd.fresh' (Kd.N_lt (N_up HO315.out)) k_ hk,Kd.fresh' (Kd.N_lt (N_up HO319.out)) k_ hk,Kd.fresh' (Kd.N_lt (N_up HO323.out)) k_ hk⟩) _ (Nat.le_refl _)) (Below.refl _ _) (Nat.le_refl _) (by simp) ?_;(case hd=>rfl);(case hg=>rfl);(case hr=>first|(go_simp;done)|(go_simp;rfl));(case hp=>exact (Reps.one (show Kd.FK (Kd.slice 45 k45) _ _ y324 [.slice Ao30 y324.length co30] from (Kd.FK_slice_mk (Kd.R_reads' (Kd.R_mono (ok':=(fun k_=>((P0_ k_ ∨ P1_ k_) ∨ w.heap.size≤k_)∧some k_≠(.slice Ao20 y313.length co20 : Value).ownBlock∧some k_≠(v318 : Value).ownBlock∧some k_≠(v322 : Value).ownBlock)) (Kd.R_apart' (Kd.R_apart' (Kd.R_apart' (HO326.out) (Kd.N_typed HO315.out) (by decide)) (Kd.N_typed HO319.out) (by decide)) (Kd.N_typed HO323.out) (by decide)) (fun k_ hk=>⟨(.inr (hk.1.1.1.1)),⟨hk.1.1.2,⟨hk.1.2,hk.2⟩⟩⟩))).2.1 (Kd.R_F (Kd.R_mono (ok':=(fun k_=>((P0_ k_ ∨ P1_ k_) ∨ w.heap.size≤k_)∧some k_≠(.slice Ao20 y313.length co20 : Value).ownBlock∧some k_≠(v318 : Value).ownBlock∧some k_≠(v322 : Value).ownBlock)) (Kd.R_apart' (Kd.R_apart' (Kd.R_apart' (HO326.out) (Kd.N_typed HO315.out) (by decide)) (Kd.N_typed HO319.out) (by decide)) (Kd.N_typed HO323.out) (by decide)) (fun k_ hk=>⟨(.inr (hk.1.1.1.1)),⟨hk.1.1.2,⟨hk.1.2,hk.2⟩⟩⟩))))) (Reps.none _ _)));intro v328 w31 ho32 hb hg_ hnew_;clear hg_ hnew_;(first|rw [← Ny327.out] at ho32|(simp only [Int.reduceToNat] at ho32;rw [← Ny327.out] at ho32));have n0_:=Aside0.mk (Kd.V_elder' (V_up HO_0.out) (Kd.N_base ho32) hb);have n1_:=Aside0.mk (Kd.V_elder' (V_up HO_1.out) (Kd.N_base ho32) hb);have n2_:=Aside0.mk (Kd.N_elder' (N_up HO315.out) (Kd.N_base ho32) hb);have n3_:=Aside0.mk (Kd.N_elder' (N_up HO319.out) (Kd.N_base ho32) hb);have n4_:=Aside0.mk (Kd.N_elder' (N_up HO323.out) (Kd.N_base ho32) hb);have n5_:=Aside0.mk (Kd.N_lower ho32 (below_size (below_up HB.out)));have n6_:=Aside0.mk (below_step (below_up HB.out) hb);clear HO_0;clear HO_1;clear HO315;clear HO319;clear HO323;clear HB;clear HO326;have HO_0:=n0_;have HO_1:=n1_;have HO315:=n2_;have HO319:=n3_;have HO323:=n4_;have HO329:=n5_;have HB:=n6_;clear n0_ n1_ n2_ n3_ n4_ n5_ n6_;clear hb ho32;obtain ⟨Ao33,co33,eo33⟩:=Kd.N_slice HO329.out;subst eo33)|(go_at_call 16;(with_reducible refine (grain_Column.calls kj8 _ _ y327 0 t330 _ ?side1 ?side2 A25.out).mono ?_);(case side1=>repeat (first|exact (Kd.N_reads' HO329.out).2.2|(with_reducible refine Kd.C_alloc ?_ _)|(with_reducible refine Kd.C_drewN ?_ _)|(with_reducible refine Kd.C_drew ?_)));(case side2=>exact (Kd.N_reads' HO329.out).2.1);rintro e w34 ⟨v331,rfl,ho0,hb⟩;have n0_:=Aside0.mk (Kd.V_elder' (V_up HO_0.out) (Kd.R_base ho0) hb);have n1_:=Aside0.mk (Kd.V_elder' (V_up HO_1.out) (Kd.R_base ho0) hb);have n2_:=Aside0.mk (Kd.N_elder' (N_up HO315.out) (Kd.R_base ho0) hb);have n3_:=Aside0.mk (Kd.N_elder' (N_up HO319.out) (Kd.R_base ho0) hb);have n4_:=Aside0.mk (Kd.N_elder' (N_up HO323.out) (Kd.R_base ho0) hb);have n5_:=Aside0.mk (Kd.N_elder' (N_up HO329.out) (Kd.R_base ho0) hb);have n6_:=Aside0.mk (Kd.R_lower (Kd.R_newM (M:=fun k_=>(w.heap.size≤k_)) ho0 (below_size (below_up HB.out)) (fun k_ h_=>h_)) (below_size (below_up HB.out)));have n7_:=Aside0.mk (below_step (below_up HB.out) hb);clear HO_0;clear HO_1;clear HO315;clear HO319;clear HO323;clear HO329;clear HB;have HO_0:=n0_;have HO_1:=n1_;have HO315:=n2_;have HO319:=n3_;have HO323:=n4_;have HO329:=n5_;have HO332:=n6_;have HB:=n7_;clear n0_ n1_ n2_ n3_ n4_ n5_ n6_ n7_;(try clear hb);(try clear hb2);(try clear hk);(try clear hi);(try clear ho0);obtain ⟨Ao35,co35,eo35⟩:=Kd.R_slice HO332.out;subst eo35)|((with_reducible refine gate_dst (N:=53) rfl ?_);(try (refine gate_guard (by rfl) ?_;dsimp only));refine Kd.R_lit k45 _ 45 ?hg (N:=53) ?hd (xs:=([(⟨0,(⟨#[]⟩ : ByteArray)⟩ : S45)] : List (S45))) (inner:=[.int .i64 0,.string (⟨#[]⟩ : ByteArray)]) (ok:=fun _=>True) (okp:=fun _=>True) ?hr ?hp (fun _ hk=>hk) trivial (Below.refl _ _) (Nat.le_refl _) (by simp) ?_;(case hd=>rfl);(case hg=>rfl);(case hr=>first|(go_simp;done)|(go_simp;rfl));(case hp=>exact (Reps.c2 (show Kd.M k45 _ _ _ (⟨0,(⟨#[]⟩ : ByteArray)⟩ : S45) [.int .i64 0,.string (⟨#[]⟩ : ByteArray)] from (k45_mkM _ _ _ (⟨0,(⟨#[]⟩ : ByteArray)⟩ : S45) )) (Reps.none _ _)));intro v334 w36 ho37 hb hg_ hnew_;clear hg_ hnew_;(first|rw [← Ny333.out] at ho37|(simp only [Int.reduceToNat] at ho37;rw [← Ny333.out] at ho37));have n0_:=Aside0.mk (Kd.V_elder' (V_up HO_0.out) (Kd.R_base ho37) hb);have n1_:=Aside0.mk (Kd.V_elder' (V_up HO_1.out) (Kd.R_base ho37) hb);have n2_:=Aside0.mk (Kd.N_elder' (N_up HO315.out) (Kd.R_base ho37) hb);have n3_:=Aside0.mk (Kd.N_elder' (N_up HO319.out) (Kd.R_base ho37) hb);have n4_:=Aside0.mk (Kd.N_elder' (N_up HO323.out) (Kd.R_base ho37) hb);have n5_:=Aside0.mk (Kd.N_elder' (N_up HO329.out) (Kd.R_base ho37) hb);have n6_:=Aside0.mk (Kd.R_elder' (R_up HO332.out) (Kd.R_base ho37) hb);have n7_:=Aside0.mk (Kd.R_lower (Kd.R_new' (Kd.R_newM (M:=fun k_=>(w.heap.size≤k_)) ho37 (below_size (below_up HB.out)) (fun k_ h_=>h_)) (Kd.R_lt (R_up HO332.out))) (below_size (below_up HB.out)));have n8_:=Aside0.mk (below_step (below_up HB.out) hb);clear HO_0;clear HO_1;clear HO315;clear HO319;clear HO323;clear HO329;clear HO332;clear HB;have HO_0:=n0_;have HO_1:=n1_;have HO315:=n2_;have HO319:=n3_;have HO323:=n4_;have HO329:=n5_;have HO332:=n6_;have HO335:=n7_;have HB:=n8_;clear n0_ n1_ n2_ n3_ n4_ n5_ n6_ n7_ n8_;clear hb ho37;obtain ⟨Ao38,co38,eo38⟩:=Kd.R_slice HO335.out;subst eo38)|((with_reducible refine gate_dst (N:=54) rfl ?_);(try (refine gate_guard (by rfl) ?_;dsimp only));refine Kd.N_lit (Kd.slice 45 k45) _ 38 ?hg (N':=54) ?hd (xs:=([y333] : List (List (S45)))) (inner:=[.slice Ao38 y333.length co38]) (ok:=(fun k_=>((P0_ k_ ∨ P1_ k_) ∨ w.heap.size≤k_)∧some k_≠(.slice Ao20 y313.length co20 : Value).ownBlock∧some k_≠(v318 : Value).ownBlock∧some k_≠(v322 : Value).ownBlock∧some k_≠(.slice Ao33 y327.length co33 : Value).ownBlock∧some k_≠(.slice Ao35 t330.length co35 : Value).ownBlock)) (okp:=(fun k_=>((P0_ k_ ∨ P1_ k_) ∨ w.heap.size≤k_)∧some k_≠(.slice Ao20 y313.length co20 : Value).ownBlock∧some k_≠(v318 : Value).ownBlock∧some k_≠(v322 : Value).ownBlock∧some k_≠(.slice Ao33 y327.length co33 : Value).ownBlock∧some k_≠(.slice Ao35 t330.length co35 : Value).ownBlock)) ?hr ?hp (fun _ hk=>hk) ((show ∀ k_,w36.heap.size≤k_→(fun k_=>((P0_ k_ ∨ P1_ k_) ∨ w.heap.size≤k_)∧some k_≠(.slice Ao20 y313.length co20 : Value).ownBlock∧some k_≠(v318 : Value).ownBlock∧some k_≠(v322 : Value).ownBlock∧some k_≠(.slice Ao33 y327.length co33 : Value).ownBlock∧some k_≠(.slice Ao35 t330.length co35 : Value).ownBlock) k_ from fun k_ hk=>⟨(.inr (Nat.le_trans (below_size (below_up HB.out)) hk)),Kd.fresh' (Kd.N_lt (N_up HO315.out)) k_ hk,Kd.fresh' (Kd.N_lt (N_up HO319.out)) k_ hk,Kd.fresh' (Kd.N_lt (N_up HO323.out)) k_ hk,Kd.fresh' (Kd.N_lt (N_up HO329.out)) k_ hk,Kd.fresh' (Kd.R_lt (R_up HO332.out)) k_ hk⟩) _ (Nat.le_refl _)) (Below.refl _ _) (Nat.le_refl _) (by simp) ?_;(case hd=>rfl);(case hg=>rfl);(case hr=>first|(go_simp;done)|(go_simp;rfl));(case hp=>exact (Reps.one (show Kd.FK (Kd.slice 45 k45) _ _ y333 [.slice Ao38 y333.length co38] from (Kd.FK_slice_mk (Kd.R_reads' (Kd.R_mono (ok':=(fun k_=>((P0_ k_ ∨ P1_ k_) ∨ w.heap.size≤k_)∧some k_≠(.slice Ao20 y313.length co20 : Value).ownBlock∧some k_≠(v318 : Value).ownBlock∧some k_≠(v322 : Value).ownBlock∧some k_≠(.slice Ao33 y327.length co33 : Value).ownBlock∧some k_≠(.slice Ao35 t330.length co35 : Value).ownBlock)) (Kd.R_apart' (Kd.R_apart' (Kd.R_apart' (Kd.R_apart' (HO335.out) (Kd.N_typed HO315.out) (by decide)) (Kd.N_typed HO319.out) (by decide)) (Kd.N_typed HO323.out) (by decide)) (Kd.N_typed HO329.out) (by decide)) (fun k_ hk=>⟨(.inr (hk.1.1.1.1.1.1)),⟨hk.1.1.1.2,⟨hk.1.1.2,⟨hk.1.2,⟨hk.2,hk.1.1.1.1.2⟩⟩⟩⟩⟩))).2.1 (Kd.R_F (Kd.R_mono (ok':=(fun k_=>((P0_ k_ ∨ P1_ k_) ∨ w.heap.size≤k_)∧some k_≠(.slice Ao20 y313.length co20 : Value).ownBlock∧some k_≠(v318 : Value).ownBlock∧some k_≠(v322 : Value).ownBlock∧some k_≠(.slice Ao33 y327.length co33 : Value).ownBlock∧some k_≠(.slice Ao35 t330.length co35 : Value).ownBlock)) (Kd.R_apart' (Kd.R_apart' (Kd.R_apart' (Kd.R_apart' (HO335.out) (Kd.N_typed HO315.out) (by decide)) (Kd.N_typed HO319.out) (by decide)) (Kd.N_typed HO323.out) (by decide)) (Kd.N_typed HO329.out) (by decide)) (fun k_ hk=>⟨(.inr (hk.1.1.1.1.1.1)),⟨hk.1.1.1.2,⟨hk.1.1.2,⟨hk.1.2,⟨hk.2,hk.1.1.1.1.2⟩⟩⟩⟩⟩))))) (Reps.none _ _)));intro v337 w39 ho40 hb hg_ hnew_;clear hg_ hnew_;(first|rw [← Ny336.out] at ho40|(simp only [Int.reduceToNat] at ho40;rw [← Ny336.out] at ho40));have n0_:=Aside0.mk (Kd.V_elder' (V_up HO_0.out) (Kd.N_base ho40) hb);have n1_:=Aside0.mk (Kd.V_elder' (V_up HO_1.out) (Kd.N_base ho40) hb);have n2_:=Aside0.mk (Kd.N_elder' (N_up HO315.out) (Kd.N_base ho40) hb);have n3_:=Aside0.mk (Kd.N_elder' (N_up HO319.out) (Kd.N_base ho40) hb);have n4_:=Aside0.mk (Kd.N_elder' (N_up HO323.out) (Kd.N_base ho40) hb);have n5_:=Aside0.mk (Kd.N_elder' (N_up HO329.out) (Kd.N_base ho40) hb);have n6_:=Aside0.mk (Kd.R_below (R_up HO332.out) hb);have n7_:=Aside0.mk (Kd.N_lower ho40 (below_size (below_up HB.out)));have n8_:=Aside0.mk (below_step (below_up HB.out) hb);clear HO_0;clear HO_1;clear HO315;clear HO319;clear HO323;clear HO329;clear HO332;clear HB;clear HO335;have HO_0:=n0_;have HO_1:=n1_;have HO315:=n2_;have HO319:=n3_;have HO323:=n4_;have HO329:=n5_;have HO332:=n6_;have HO338:=n7_;have HB:=n8_;clear n0_ n1_ n2_ n3_ n4_ n5_ n6_ n7_ n8_;clear hb ho40;obtain ⟨Ao41,co41,eo41⟩:=Kd.N_slice HO338.out;subst eo41)|(go_at_call 16;(with_reducible refine (grain_Column.calls kj8 _ _ y336 (-1) t339 _ ?side1 ?side2 A27.out).mono ?_);(case side1=>repeat (first|exact (Kd.N_reads' HO338.out).2.2|(with_reducible refine Kd.C_alloc ?_ _)|(with_reducible refine Kd.C_drewN ?_ _)|(with_reducible refine Kd.C_drew ?_)));(case side2=>exact (Kd.N_reads' HO338.out).2.1);rintro e w42 ⟨v340,rfl,ho0,hb⟩;have n0_:=Aside0.mk (Kd.V_elder' (V_up HO_0.out) (Kd.R_base ho0) hb);have n1_:=Aside0.mk (Kd.V_elder' (V_up HO_1.out) (Kd.R_base ho0) hb);have n2_:=Aside0.mk (Kd.N_elder' (N_up HO315.out) (Kd.R_base ho0) hb);have n3_:=Aside0.mk (Kd.N_elder' (N_up HO319.out) (Kd.R_base ho0) hb);have n4_:=Aside0.mk (Kd.N_elder' (N_up HO323.out) (Kd.R_base ho0) hb);have n5_:=Aside0.mk (Kd.N_elder' (N_up HO329.out) (Kd.R_base ho0) hb);have n6_:=Aside0.mk (Kd.R_elder' (R_up HO332.out) (Kd.R_base ho0) hb);have n7_:=Aside0.mk (Kd.N_elder' (N_up HO338.out) (Kd.R_base ho0) hb);have n8_:=Aside0.mk (Kd.R_lower (Kd.R_new' (Kd.R_newM (M:=fun k_=>(w.heap.size≤k_)) ho0 (below_size (below_up HB.out)) (fun k_ h_=>h_)) (Kd.R_lt (R_up HO332.out))) (below_size (below_up HB.out)));have n9_:=Aside0.mk (below_step (below_up HB.out) hb);clear HO_0;clear HO_1;clear HO315;clear HO319;clear HO323;clear HO329;clear HO332;clear HO338;clear HB;have HO_0:=n0_;have HO_1:=n1_;have HO315:=n2_;have HO319:=n3_;have HO323:=n4_;have HO329:=n5_;have HO332:=n6_;have HO338:=n7_;have HO341:=n8_;have HB:=n9_;clear n0_ n1_ n2_ n3_ n4_ n5_ n6_ n7_ n8_ n9_;(try clear hb);(try clear hb2);(try clear hk);(try clear hi);(try clear ho0);obtain ⟨Ao43,co43,eo43⟩:=Kd.R_slice HO341.out;subst eo43))
         go_meet
         case rel=>exact ⟨_,(((t339.length : Int) != 0)),(by first|rfl|(simp;done)|(simp [*];done)),(by first|exact H'|(subst_vars;exact H')),⟨by have:=HJ3.out;have:=HJ8.out;first|omega|exact Nat.le_refl _⟩,⟨by (with_reducible repeat (first|apply Kd.V_alloc|apply Kd.V_drewN|apply Kd.V_drew));exact Kd.V_mono HO_0.out (fun _ hk=>⟨hk.1.1.1.1.1.1.1.1.1,hk.1.1.1.1.1.1.1.2⟩)⟩,⟨by (with_reducible repeat (first|apply Kd.V_alloc|apply Kd.V_drewN|apply Kd.V_drew));exact Kd.V_mono HO_1.out (fun _ hk=>⟨hk.1.1.1.1.1.1.1.1.1,hk.1.1.1.1.1.1.1.2⟩)⟩,⟨by (with_reducible repeat (first|apply Kd.N_alloc|apply Kd.N_drewN|apply Kd.N_drew));exact Kd.N_mono HO319.out (fun _ hk=>hk.1.1.1.1.1.1.1.1)⟩,⟨by repeat (first|(with_reducible first|exact HB.out|apply below_alloc|apply pw_below_drewN|apply below_drew1)|exact HB.out)⟩⟩
        ·rw [if_neg c26] at H
         have c26b0 : ((t330.length : Int) == 0)=false:=beq_eq_false_iff_ne.mpr c26
         have c26b1 : ((t330.length : Int) != 0)=true:=bne_iff_ne.mpr c26
         have c26b2 : ¬ (t330=[]):=fun h_=>c26 (by rw [h_];rfl)
         have H':=Aside0.mk H
         clear H
         go_wp2_with (first|((with_reducible refine gate_dst (N:=45) rfl ?_);(try (refine gate_guard (by rfl) ?_;dsimp only));refine Kd.R_lit k45 _ 45 ?hg (N:=45) ?hd (xs:=([] : List (S45))) (inner:=[]) (ok:=fun _=>True) (okp:=fun _=>True) ?hr ?hp (fun _ hk=>hk) trivial (Below.refl _ _) (Nat.le_refl _) (by simp) ?_;(case hd=>rfl);(case hg=>rfl);(case hr=>first|(go_simp;done)|(go_simp;rfl));(case hp=>exact (Reps.none _ _));intro v325 w44 ho45 hb hg_ hnew_;clear hg_ hnew_;(first|rw [← Ny324.out] at ho45|(simp only [Int.reduceToNat] at ho45;rw [← Ny324.out] at ho45));have n0_:=Aside0.mk (Kd.V_elder' (V_up HO_0.out) (Kd.R_base ho45) hb);have n1_:=Aside0.mk (Kd.V_elder' (V_up HO_1.out) (Kd.R_base ho45) hb);have n2_:=Aside0.mk (Kd.N_elder' (N_up HO315.out) (Kd.R_base ho45) hb);have n3_:=Aside0.mk (Kd.N_elder' (N_up HO319.out) (Kd.R_base ho45) hb);have n4_:=Aside0.mk (Kd.N_elder' (N_up HO323.out) (Kd.R_base ho45) hb);have n5_:=Aside0.mk (Kd.R_lower (Kd.R_newM (M:=fun k_=>(w.heap.size≤k_)) ho45 (below_size (below_up HB.out)) (fun k_ h_=>h_)) (below_size (below_up HB.out)));have n6_:=Aside0.mk (below_step (below_up HB.out) hb);clear HO_0;clear HO_1;clear HO315;clear HO319;clear HO323;clear HB;have HO_0:=n0_;have HO_1:=n1_;have HO315:=n2_;have HO319:=n3_;have HO323:=n4_;have HO326:=n5_;have HB:=n6_;clear n0_ n1_ n2_ n3_ n4_ n5_ n6_;clear hb ho45;obtain ⟨Ao46,co46,eo46⟩:=Kd.R_slice HO326.out;subst eo46)|((with_reducible refine gate_dst (N:=46) rfl ?_);(try (refine gate_guard (by rfl) ?_;dsimp only));refine Kd.N_lit (Kd.slice 45 k45) _ 38 ?hg (N':=46) ?hd (xs:=([y324] : List (List (S45)))) (inner:=[.slice Ao46 y324.length co46]) (ok:=(fun k_=>((P0_ k_ ∨ P1_ k_) ∨ w.heap.size≤k_)∧some k_≠(.slice Ao20 y313.length co20 : Value).ownBlock∧some k_≠(v318 : Value).ownBlock∧some k_≠(v322 : Value).ownBlock)) (okp:=(fun k_=>((P0_ k_ ∨ P1_ k_) ∨ w.heap.size≤k_)∧some k_≠(.slice Ao20 y313.length co20 : Value).ownBlock∧some k_≠(v318 : Value).ownBlock∧some k_≠(v322 : Value).ownBlock)) ?hr ?hp (fun _ hk=>hk) ((show ∀ k_,w44.heap.size≤k_→(fun k_=>((P0_ k_ ∨ P1_ k_) ∨ w.heap.size≤k_)∧some k_≠(.slice Ao20 y313.length co20 : Value).ownBlock∧some k_≠(v318 : Value).ownBlock∧some k_≠(v322 : Value).ownBlock) k_ from fun k_ hk=>⟨(.inr (Nat.le_trans (below_size (below_up HB.out)) hk)),Kd.fresh' (Kd.N_lt (N_up HO315.out)) k_ hk,Kd.fresh' (Kd.N_lt (N_up HO319.out)) k_ hk,Kd.fresh' (Kd.N_lt (N_up HO323.out)) k_ hk⟩) _ (Nat.le_refl _)) (Below.refl _ _) (Nat.le_refl _) (by simp) ?_;(case hd=>rfl);(case hg=>rfl);(case hr=>first|(go_simp;done)|(go_simp;rfl));(case hp=>exact (Reps.one (show Kd.FK (Kd.slice 45 k45) _ _ y324 [.slice Ao46 y324.length co46] from (Kd.FK_slice_mk (Kd.R_reads' (Kd.R_mono (ok':=(fun k_=>((P0_ k_ ∨ P1_ k_) ∨ w.heap.size≤k_)∧some k_≠(.slice Ao20 y313.length co20 : Value).ownBlock∧some k_≠(v318 : Value).ownBlock∧some k_≠(v322 : Value).ownBlock)) (Kd.R_apart' (Kd.R_apart' (Kd.R_apart' (HO326.out) (Kd.N_typed HO315.out) (by decide)) (Kd.N_typed HO319.out) (by decide)) (Kd.N_typed HO323.out) (by decide)) (fun k_ hk=>⟨(.inr (hk.1.1.1.1)),⟨hk.1.1.2,⟨hk.1.2,hk.2⟩⟩⟩))).2.1 (Kd.R_F (Kd.R_mono (ok':=(fun k_=>((P0_ k_ ∨ P1_ k_) ∨ w.heap.size≤k_)∧some k_≠(.slice Ao20 y313.length co20 : Value).ownBlock∧some k_≠(v318 : Value).ownBlock∧some k_≠(v322 : Value).ownBlock)) (Kd.R_apart' (Kd.R_apart' (Kd.R_apart' (HO326.out) (Kd.N_typed HO315.out) (by decide)) (Kd.N_typed HO319.out) (by decide)) (Kd.N_typed HO323.out) (by decide)) (fun k_ hk=>⟨(.inr (hk.1.1.1.1)),⟨hk.1.1.2,⟨hk.1.2,hk.2⟩⟩⟩))))) (Reps.none _ _)));intro v328 w47 ho48 hb hg_ hnew_;clear hg_ hnew_;(first|rw [← Ny327.out] at ho48|(simp only [Int.reduceToNat] at ho48;rw [← Ny327.out] at ho48));have n0_:=Aside0.mk (Kd.V_elder' (V_up HO_0.out) (Kd.N_base ho48) hb);have n1_:=Aside0.mk (Kd.V_elder' (V_up HO_1.out) (Kd.N_base ho48) hb);have n2_:=Aside0.mk (Kd.N_elder' (N_up HO315.out) (Kd.N_base ho48) hb);have n3_:=Aside0.mk (Kd.N_elder' (N_up HO319.out) (Kd.N_base ho48) hb);have n4_:=Aside0.mk (Kd.N_elder' (N_up HO323.out) (Kd.N_base ho48) hb);have n5_:=Aside0.mk (Kd.N_lower ho48 (below_size (below_up HB.out)));have n6_:=Aside0.mk (below_step (below_up HB.out) hb);clear HO_0;clear HO_1;clear HO315;clear HO319;clear HO323;clear HB;clear HO326;have HO_0:=n0_;have HO_1:=n1_;have HO315:=n2_;have HO319:=n3_;have HO323:=n4_;have HO329:=n5_;have HB:=n6_;clear n0_ n1_ n2_ n3_ n4_ n5_ n6_;clear hb ho48;obtain ⟨Ao49,co49,eo49⟩:=Kd.N_slice HO329.out;subst eo49)|(go_at_call 16;(with_reducible refine (grain_Column.calls kj8 _ _ y327 0 t330 _ ?side1 ?side2 A25.out).mono ?_);(case side1=>repeat (first|exact (Kd.N_reads' HO329.out).2.2|(with_reducible refine Kd.C_alloc ?_ _)|(with_reducible refine Kd.C_drewN ?_ _)|(with_reducible refine Kd.C_drew ?_)));(case side2=>exact (Kd.N_reads' HO329.out).2.1);rintro e w50 ⟨v331,rfl,ho0,hb⟩;have n0_:=Aside0.mk (Kd.V_elder' (V_up HO_0.out) (Kd.R_base ho0) hb);have n1_:=Aside0.mk (Kd.V_elder' (V_up HO_1.out) (Kd.R_base ho0) hb);have n2_:=Aside0.mk (Kd.N_elder' (N_up HO315.out) (Kd.R_base ho0) hb);have n3_:=Aside0.mk (Kd.N_elder' (N_up HO319.out) (Kd.R_base ho0) hb);have n4_:=Aside0.mk (Kd.N_elder' (N_up HO323.out) (Kd.R_base ho0) hb);have n5_:=Aside0.mk (Kd.N_elder' (N_up HO329.out) (Kd.R_base ho0) hb);have n6_:=Aside0.mk (Kd.R_lower (Kd.R_newM (M:=fun k_=>(w.heap.size≤k_)) ho0 (below_size (below_up HB.out)) (fun k_ h_=>h_)) (below_size (below_up HB.out)));have n7_:=Aside0.mk (below_step (below_up HB.out) hb);clear HO_0;clear HO_1;clear HO315;clear HO319;clear HO323;clear HO329;clear HB;have HO_0:=n0_;have HO_1:=n1_;have HO315:=n2_;have HO319:=n3_;have HO323:=n4_;have HO329:=n5_;have HO332:=n6_;have HB:=n7_;clear n0_ n1_ n2_ n3_ n4_ n5_ n6_ n7_;(try clear hb);(try clear hb2);(try clear hk);(try clear hi);(try clear ho0);obtain ⟨Ao51,co51,eo51⟩:=Kd.R_slice HO332.out;subst eo51))
         go_meet
         case rel=>exact ⟨_,(true),(by first|rfl|(simp;done)|(simp [*];done)),(by first|exact H'|(subst_vars;exact H')),⟨by have:=HJ3.out;have:=HJ8.out;first|omega|exact Nat.le_refl _⟩,⟨by (with_reducible repeat (first|apply Kd.V_alloc|apply Kd.V_drewN|apply Kd.V_drew));exact Kd.V_mono HO_0.out (fun _ hk=>⟨hk.1.1.1.1.1.1,hk.1.1.1.1.2⟩)⟩,⟨by (with_reducible repeat (first|apply Kd.V_alloc|apply Kd.V_drewN|apply Kd.V_drew));exact Kd.V_mono HO_1.out (fun _ hk=>⟨hk.1.1.1.1.1.1,hk.1.1.1.1.2⟩)⟩,⟨by (with_reducible repeat (first|apply Kd.N_alloc|apply Kd.N_drewN|apply Kd.N_drew));exact Kd.N_mono HO319.out (fun _ hk=>hk.1.1.1.1.1)⟩,⟨by repeat (first|(with_reducible first|exact HB.out|apply below_alloc|apply pw_below_drewN|apply below_drew1)|exact HB.out)⟩⟩
     case rest =>
      clear HC15
      try clear c1
      try clear q1
      try clear c2
      try clear p2
      try clear c4
      try clear c6
      try clear c6b0
      try clear c6b1
      try clear c7
      try clear c7b0
      try clear c7b1
      try clear q8
      try clear c10
      try clear c10b0
      try clear c10b1
      try clear c11
      try clear c11b0
      try clear c11b1
      try clear q12
      try clear c15
      try clear c23
      try clear c23b0
      try clear c23b1
      try clear c23b2
      try clear c24
      try clear c26
      try clear c26b0
      try clear c26b1
      try clear c26b2
      try clear p2
      try clear q1
      try clear q12
      try clear q8
      obtain ⟨kq,x58_14,rfl,HA,HJ14,HO_0,HO_1,HO_6,HB⟩:=hcut
      cases kq with
      | zero=>exact absurd HA.out (by simp [thresherlaw10_GrainOdd.j2])
      | succ kj14 =>
       have H:=HA.out
       clear HA
       simp only [thresherlaw10_GrainOdd.j2] at H
       by_cases c52 : x58_14=true
       ·subst c52
        have H1 : (some false)=some r:=by rw [if_pos rfl] at H;exact H
        clear H
        have H:=H1
        clear H1
        obtain rfl:=Option.some.inj H
        go_wp2
        go_ret
        exact ⟨by first|rfl|(simp [errW_none,errW_some] <;> rfl)|(simp [*,errW_none,errW_some] <;> rfl),by repeat (first|(with_reducible first|exact HB.out|apply below_alloc|apply pw_below_drewN|apply below_drew1)|exact HB.out)⟩
       ·replace c52:=Bool.eq_false_iff.mpr c52
        subst c52
        have H1 : (if t317=true then ((grain_Column.f kj14 t316 0).bind fun t342=>((thresherref07_Same.f kj14 t342 x0_3).bind fun t345=>((grain_Column.f kj14 t316 1).bind fun t346=>((thresherref07_Same.f kj14 t346 x1_8).bind fun t349=>(if t302=true then (if (t316.length : Int)=(x0_3.length : Int) then (if t345=true then (some t349) else (some false)) else (some false)) else (some false)))))) else (if t302=true then (some ((t316.length : Int) == 0)) else (some false)))=some r:=by rw [if_neg (show ¬ (false=true) by decide)] at H;exact H
        clear H
        have H:=H1
        clear H1
        by_cases c53 : t317=true
        ·subst c53
         have H1 : ((grain_Column.f kj14 t316 0).bind fun t342=>((thresherref07_Same.f kj14 t342 x0_3).bind fun t345=>((grain_Column.f kj14 t316 1).bind fun t346=>((thresherref07_Same.f kj14 t346 x1_8).bind fun t349=>(if t302=true then (if (t316.length : Int)=(x0_3.length : Int) then (if t345=true then (some t349) else (some false)) else (some false)) else (some false))))))=some r:=by rw [if_pos rfl] at H;exact H
         clear H
         have H:=H1
         clear H1
         replace H:=Option.bind_eq_some_iff.mp H
         obtain ⟨t342,A540,H⟩:=H
         replace H : ((thresherref07_Same.f kj14 t342 x0_3).bind fun t345=>((grain_Column.f kj14 t316 1).bind fun t346=>((thresherref07_Same.f kj14 t346 x1_8).bind fun t349=>(if t302=true then (if (t316.length : Int)=(x0_3.length : Int) then (if t345=true then (some t349) else (some false)) else (some false)) else (some false)))))=some r:=H
         have A54:=Aside0.mk A540
         clear A540
         replace H:=Option.bind_eq_some_iff.mp H
         obtain ⟨t345,A550,H⟩:=H
         replace H : ((grain_Column.f kj14 t316 1).bind fun t346=>((thresherref07_Same.f kj14 t346 x1_8).bind fun t349=>(if t302=true then (if (t316.length : Int)=(x0_3.length : Int) then (if t345=true then (some t349) else (some false)) else (some false)) else (some false))))=some r:=H
         have A55:=Aside0.mk A550
         clear A550
         replace H:=Option.bind_eq_some_iff.mp H
         obtain ⟨t346,A560,H⟩:=H
         replace H : ((thresherref07_Same.f kj14 t346 x1_8).bind fun t349=>(if t302=true then (if (t316.length : Int)=(x0_3.length : Int) then (if t345=true then (some t349) else (some false)) else (some false)) else (some false)))=some r:=H
         have A56:=Aside0.mk A560
         clear A560
         replace H:=Option.bind_eq_some_iff.mp H
         obtain ⟨t349,A570,H⟩:=H
         replace H : (if t302=true then (if (t316.length : Int)=(x0_3.length : Int) then (if t345=true then (some t349) else (some false)) else (some false)) else (some false))=some r:=H
         have A57:=Aside0.mk A570
         clear A570
         by_cases c58 : t302=true
         ·subst c58
          have H1 : (if (t316.length : Int)=(x0_3.length : Int) then (if t345=true then (some t349) else (some false)) else (some false))=some r:=by rw [if_pos rfl] at H;exact H
          clear H
          have H:=H1
          clear H1
          by_cases c59 : (t316.length : Int)=(x0_3.length : Int)
          ·rw [if_pos c59] at H
           have c59b0 : ((t316.length : Int) == (x0_3.length : Int))=true:=beq_iff_eq.mpr c59
           have c59b1 : ((t316.length : Int) != (x0_3.length : Int))=false:=bne_eq_false_iff_eq.mpr c59
           have c59b2 : (t316.length == x0_3.length)=true:=by first|simpa using c59|(simp at c59 ⊢;omega)
           clear c59
           by_cases c60 : t345=true
           ·subst c60
            have H1 : (some t349)=some r:=by rw [if_pos rfl] at H;exact H
            clear H
            have H:=H1
            clear H1
            obtain rfl:=Option.some.inj H
            obtain ⟨Ao61,co61,eo61⟩:=Kd.N_slice HO_6.out
            subst eo61
            go_wp2_with (first|((with_reducible refine gate_callee (f:=16) rfl ?_);refine goesL_ (some 68) rfl rfl Try.func16 (by kernel_rfl) rfl #[.slice Ao61 t316.length co61,.int .i64 0] rfl (by (try simp only [List.map_toArray,List.map_cons,List.map_nil]);first|done|rfl|(simp only [List.length_drop,List.length_take];rfl)) ?_;(with_reducible refine (grain_Column.calls kj14 _ _ t316 0 t342 _ ?side1 ?side2 A54.out).mono ?_);(case side1=>repeat (first|exact (Kd.N_reads' HO_6.out).2.2|(with_reducible refine Kd.C_alloc ?_ _)|(with_reducible refine Kd.C_drewN ?_ _)|(with_reducible refine Kd.C_drew ?_)));(case side2=>exact (Kd.N_reads' HO_6.out).2.1);rintro e w62 ⟨v343,rfl,ho0,hb⟩;refine ⟨_,rfl,?_⟩;have n0_:=Aside0.mk (Kd.V_elder' (V_up HO_0.out) (Kd.R_base ho0) hb);have n1_:=Aside0.mk (Kd.V_elder' (V_up HO_1.out) (Kd.R_base ho0) hb);have n2_:=Aside0.mk (Kd.N_elder' (N_up HO_6.out) (Kd.R_base ho0) hb);have n3_:=Aside0.mk (Kd.R_lower (Kd.R_newM (M:=fun k_=>(w.heap.size≤k_)) ho0 (below_size (below_up HB.out)) (fun k_ h_=>h_)) (below_size (below_up HB.out)));have n4_:=Aside0.mk (below_step (below_up HB.out) hb);clear HO_0;clear HO_1;clear HO_6;clear HB;have HO_0:=n0_;have HO_1:=n1_;have HO_6:=n2_;have HO344:=n3_;have HB:=n4_;clear n0_ n1_ n2_ n3_ n4_;(try clear hb);(try clear hb2);(try clear hk);(try clear hi);(try clear ho0);obtain ⟨Ao63,co63,eo63⟩:=Kd.R_slice HO344.out;subst eo63)|((with_reducible refine gate_callee (f:=17) rfl ?_);refine goesL_ (some 70) rfl rfl Try.func17 (by kernel_rfl) rfl #[.slice Ao63 t342.length co63,.slice Ao16 x0_3.length co16] rfl (by (try simp only [List.map_toArray,List.map_cons,List.map_nil]);first|done|rfl|(simp only [List.length_drop,List.length_take];rfl)) ?_;(with_reducible refine (thresherref07_Same.calls kj14 _ _ t342 _ _ x0_3 true _ ?side1 ?side2 ?side3 ?side4 A55.out).mono ?_);(case side1=>repeat (first|exact (Kd.R_reads' HO344.out).2.2|(with_reducible refine Kd.C_alloc ?_ _)|(with_reducible refine Kd.C_drewN ?_ _)|(with_reducible refine Kd.C_drew ?_)));(case side2=>exact (Kd.R_reads' HO344.out).2.1);(case side3=>repeat (first|exact (Kd.V_reads' HO_0.out).2.2|(with_reducible refine Kd.C_alloc ?_ _)|(with_reducible refine Kd.C_drewN ?_ _)|(with_reducible refine Kd.C_drew ?_)));(case side4=>exact (Kd.V_reads' HO_0.out).2.1);rintro e w' ⟨rfl,⟨nd,rfl⟩⟩;refine ⟨_,rfl,?_⟩)|((with_reducible refine gate_callee (f:=16) rfl ?_);refine goesL_ (some 72) rfl rfl Try.func16 (by kernel_rfl) rfl #[.slice Ao61 t316.length co61,.int .i64 1] rfl (by (try simp only [List.map_toArray,List.map_cons,List.map_nil]);first|done|rfl|(simp only [List.length_drop,List.length_take];rfl)) ?_;(with_reducible refine (grain_Column.calls kj14 _ _ t316 1 t346 _ ?side1 ?side2 A56.out).mono ?_);(case side1=>repeat (first|exact (Kd.N_reads' HO_6.out).2.2|(with_reducible refine Kd.C_alloc ?_ _)|(with_reducible refine Kd.C_drewN ?_ _)|(with_reducible refine Kd.C_drew ?_)));(case side2=>exact (Kd.N_reads' HO_6.out).2.1);rintro e w64 ⟨v347,rfl,ho0,hb⟩;refine ⟨_,rfl,?_⟩;have n0_:=Aside0.mk (Kd.V_elder' (V_up HO_0.out) (Kd.R_base ho0) hb);have n1_:=Aside0.mk (Kd.V_elder' (V_up HO_1.out) (Kd.R_base ho0) hb);have n2_:=Aside0.mk (Kd.N_elder' (N_up HO_6.out) (Kd.R_base ho0) hb);have n3_:=Aside0.mk (Kd.R_elder' (R_up HO344.out) (Kd.R_base ho0) hb);have n4_:=Aside0.mk (Kd.R_lower (Kd.R_new' (Kd.R_newM (M:=fun k_=>(w.heap.size≤k_)) ho0 (below_size (below_up HB.out)) (fun k_ h_=>h_)) (Kd.R_lt (R_up HO344.out))) (below_size (below_up HB.out)));have n5_:=Aside0.mk (below_step (below_up HB.out) hb);clear HO_0;clear HO_1;clear HO_6;clear HO344;clear HB;have HO_0:=n0_;have HO_1:=n1_;have HO_6:=n2_;have HO344:=n3_;have HO348:=n4_;have HB:=n5_;clear n0_ n1_ n2_ n3_ n4_ n5_;(try clear hb);(try clear hb2);(try clear hk);(try clear hi);(try clear ho0);obtain ⟨Ao65,co65,eo65⟩:=Kd.R_slice HO348.out;subst eo65)|((with_reducible refine gate_callee (f:=17) rfl ?_);refine goesL_ (some 74) rfl rfl Try.func17 (by kernel_rfl) rfl #[.slice Ao65 t346.length co65,.slice Ao17 x1_8.length co17] rfl (by (try simp only [List.map_toArray,List.map_cons,List.map_nil]);first|done|rfl|(simp only [List.length_drop,List.length_take];rfl)) ?_;(with_reducible refine (thresherref07_Same.calls kj14 _ _ t346 _ _ x1_8 t349 _ ?side1 ?side2 ?side3 ?side4 A57.out).mono ?_);(case side1=>repeat (first|exact (Kd.R_reads' HO348.out).2.2|(with_reducible refine Kd.C_alloc ?_ _)|(with_reducible refine Kd.C_drewN ?_ _)|(with_reducible refine Kd.C_drew ?_)));(case side2=>exact (Kd.R_reads' HO348.out).2.1);(case side3=>repeat (first|exact (Kd.V_reads' HO_1.out).2.2|(with_reducible refine Kd.C_alloc ?_ _)|(with_reducible refine Kd.C_drewN ?_ _)|(with_reducible refine Kd.C_drew ?_)));(case side4=>exact (Kd.V_reads' HO_1.out).2.1);rintro e w' ⟨rfl,⟨nd,rfl⟩⟩;refine ⟨_,rfl,?_⟩))
            go_ret
            exact ⟨by first|rfl|(simp [errW_none,errW_some] <;> rfl)|(simp [*,errW_none,errW_some] <;> rfl),by repeat (first|(with_reducible first|exact HB.out|apply below_alloc|apply pw_below_drewN|apply below_drew1)|exact HB.out)⟩
           ·replace c60:=Bool.eq_false_iff.mpr c60
            subst c60
            have H1 : (some false)=some r:=by rw [if_neg (show ¬ (false=true) by decide)] at H;exact H
            clear H
            have H:=H1
            clear H1
            obtain rfl:=Option.some.inj H
            obtain ⟨Ao66,co66,eo66⟩:=Kd.N_slice HO_6.out
            subst eo66
            go_wp2_with (first|((with_reducible refine gate_callee (f:=16) rfl ?_);refine goesL_ (some 68) rfl rfl Try.func16 (by kernel_rfl) rfl #[.slice Ao66 t316.length co66,.int .i64 0] rfl (by (try simp only [List.map_toArray,List.map_cons,List.map_nil]);first|done|rfl|(simp only [List.length_drop,List.length_take];rfl)) ?_;(with_reducible refine (grain_Column.calls kj14 _ _ t316 0 t342 _ ?side1 ?side2 A54.out).mono ?_);(case side1=>repeat (first|exact (Kd.N_reads' HO_6.out).2.2|(with_reducible refine Kd.C_alloc ?_ _)|(with_reducible refine Kd.C_drewN ?_ _)|(with_reducible refine Kd.C_drew ?_)));(case side2=>exact (Kd.N_reads' HO_6.out).2.1);rintro e w67 ⟨v343,rfl,ho0,hb⟩;refine ⟨_,rfl,?_⟩;have n0_:=Aside0.mk (Kd.V_elder' (V_up HO_0.out) (Kd.R_base ho0) hb);have n1_:=Aside0.mk (Kd.V_elder' (V_up HO_1.out) (Kd.R_base ho0) hb);have n2_:=Aside0.mk (Kd.N_elder' (N_up HO_6.out) (Kd.R_base ho0) hb);have n3_:=Aside0.mk (Kd.R_lower (Kd.R_newM (M:=fun k_=>(w.heap.size≤k_)) ho0 (below_size (below_up HB.out)) (fun k_ h_=>h_)) (below_size (below_up HB.out)));have n4_:=Aside0.mk (below_step (below_up HB.out) hb);clear HO_0;clear HO_1;clear HO_6;clear HB;have HO_0:=n0_;have HO_1:=n1_;have HO_6:=n2_;have HO344:=n3_;have HB:=n4_;clear n0_ n1_ n2_ n3_ n4_;(try clear hb);(try clear hb2);(try clear hk);(try clear hi);(try clear ho0);obtain ⟨Ao68,co68,eo68⟩:=Kd.R_slice HO344.out;subst eo68)|((with_reducible refine gate_callee (f:=17) rfl ?_);refine goesL_ (some 70) rfl rfl Try.func17 (by kernel_rfl) rfl #[.slice Ao68 t342.length co68,.slice Ao16 x0_3.length co16] rfl (by (try simp only [List.map_toArray,List.map_cons,List.map_nil]);first|done|rfl|(simp only [List.length_drop,List.length_take];rfl)) ?_;(with_reducible refine (thresherref07_Same.calls kj14 _ _ t342 _ _ x0_3 false _ ?side1 ?side2 ?side3 ?side4 A55.out).mono ?_);(case side1=>repeat (first|exact (Kd.R_reads' HO344.out).2.2|(with_reducible refine Kd.C_alloc ?_ _)|(with_reducible refine Kd.C_drewN ?_ _)|(with_reducible refine Kd.C_drew ?_)));(case side2=>exact (Kd.R_reads' HO344.out).2.1);(case side3=>repeat (first|exact (Kd.V_reads' HO_0.out).2.2|(with_reducible refine Kd.C_alloc ?_ _)|(with_reducible refine Kd.C_drewN ?_ _)|(with_reducible refine Kd.C_drew ?_)));(case side4=>exact (Kd.V_reads' HO_0.out).2.1);rintro e w' ⟨rfl,⟨nd,rfl⟩⟩;refine ⟨_,rfl,?_⟩)|((with_reducible refine gate_callee (f:=16) rfl ?_);refine goesL_ (some 72) rfl rfl Try.func16 (by kernel_rfl) rfl #[.slice Ao66 t316.length co66,.int .i64 1] rfl (by (try simp only [List.map_toArray,List.map_cons,List.map_nil]);first|done|rfl|(simp only [List.length_drop,List.length_take];rfl)) ?_;(with_reducible refine (grain_Column.calls kj14 _ _ t316 1 t346 _ ?side1 ?side2 A56.out).mono ?_);(case side1=>repeat (first|exact (Kd.N_reads' HO_6.out).2.2|(with_reducible refine Kd.C_alloc ?_ _)|(with_reducible refine Kd.C_drewN ?_ _)|(with_reducible refine Kd.C_drew ?_)));(case side2=>exact (Kd.N_reads' HO_6.out).2.1);rintro e w69 ⟨v347,rfl,ho0,hb⟩;refine ⟨_,rfl,?_⟩;have n0_:=Aside0.mk (Kd.V_elder' (V_up HO_0.out) (Kd.R_base ho0) hb);have n1_:=Aside0.mk (Kd.V_elder' (V_up HO_1.out) (Kd.R_base ho0) hb);have n2_:=Aside0.mk (Kd.N_elder' (N_up HO_6.out) (Kd.R_base ho0) hb);have n3_:=Aside0.mk (Kd.R_elder' (R_up HO344.out) (Kd.R_base ho0) hb);have n4_:=Aside0.mk (Kd.R_lower (Kd.R_new' (Kd.R_newM (M:=fun k_=>(w.heap.size≤k_)) ho0 (below_size (below_up HB.out)) (fun k_ h_=>h_)) (Kd.R_lt (R_up HO344.out))) (below_size (below_up HB.out)));have n5_:=Aside0.mk (below_step (below_up HB.out) hb);clear HO_0;clear HO_1;clear HO_6;clear HO344;clear HB;have HO_0:=n0_;have HO_1:=n1_;have HO_6:=n2_;have HO344:=n3_;have HO348:=n4_;have HB:=n5_;clear n0_ n1_ n2_ n3_ n4_ n5_;(try clear hb);(try clear hb2);(try clear hk);(try clear hi);(try clear ho0);obtain ⟨Ao70,co70,eo70⟩:=Kd.R_slice HO348.out;subst eo70)|((with_reducible refine gate_callee (f:=17) rfl ?_);refine goesL_ (some 74) rfl rfl Try.func17 (by kernel_rfl) rfl #[.slice Ao70 t346.length co70,.slice Ao17 x1_8.length co17] rfl (by (try simp only [List.map_toArray,List.map_cons,List.map_nil]);first|done|rfl|(simp only [List.length_drop,List.length_take];rfl)) ?_;(with_reducible refine (thresherref07_Same.calls kj14 _ _ t346 _ _ x1_8 t349 _ ?side1 ?side2 ?side3 ?side4 A57.out).mono ?_);(case side1=>repeat (first|exact (Kd.R_reads' HO348.out).2.2|(with_reducible refine Kd.C_alloc ?_ _)|(with_reducible refine Kd.C_drewN ?_ _)|(with_reducible refine Kd.C_drew ?_)));(case side2=>exact (Kd.R_reads' HO348.out).2.1);(case side3=>repeat (first|exact (Kd.V_reads' HO_1.out).2.2|(with_reducible refine Kd.C_alloc ?_ _)|(with_reducible refine Kd.C_drewN ?_ _)|(with_reducible refine Kd.C_drew ?_)));(case side4=>exact (Kd.V_reads' HO_1.out).2.1);rintro e w' ⟨rfl,⟨nd,rfl⟩⟩;refine ⟨_,rfl,?_⟩))
            go_ret
            exact ⟨by first|rfl|(simp [errW_none,errW_some] <;> rfl)|(simp [*,errW_none,errW_some] <;> rfl),by repeat (first|(with_reducible first|exact HB.out|apply below_alloc|apply pw_below_drewN|apply below_drew1)|exact HB.out)⟩
          ·rw [if_neg c59] at H
           have c59b0 : ((t316.length : Int) == (x0_3.length : Int))=false:=beq_eq_false_iff_ne.mpr c59
           have c59b1 : ((t316.length : Int) != (x0_3.length : Int))=true:=bne_iff_ne.mpr c59
           have c59b2 : (t316.length == x0_3.length)=false:=by first|simpa using c59|(simp at c59 ⊢;omega)
           obtain rfl:=Option.some.inj H
           obtain ⟨Ao71,co71,eo71⟩:=Kd.N_slice HO_6.out
           subst eo71
           go_wp2_with (first|((with_reducible refine gate_callee (f:=16) rfl ?_);refine goesL_ (some 68) rfl rfl Try.func16 (by kernel_rfl) rfl #[.slice Ao71 t316.length co71,.int .i64 0] rfl (by (try simp only [List.map_toArray,List.map_cons,List.map_nil]);first|done|rfl|(simp only [List.length_drop,List.length_take];rfl)) ?_;(with_reducible refine (grain_Column.calls kj14 _ _ t316 0 t342 _ ?side1 ?side2 A54.out).mono ?_);(case side1=>repeat (first|exact (Kd.N_reads' HO_6.out).2.2|(with_reducible refine Kd.C_alloc ?_ _)|(with_reducible refine Kd.C_drewN ?_ _)|(with_reducible refine Kd.C_drew ?_)));(case side2=>exact (Kd.N_reads' HO_6.out).2.1);rintro e w72 ⟨v343,rfl,ho0,hb⟩;refine ⟨_,rfl,?_⟩;have n0_:=Aside0.mk (Kd.V_elder' (V_up HO_0.out) (Kd.R_base ho0) hb);have n1_:=Aside0.mk (Kd.V_elder' (V_up HO_1.out) (Kd.R_base ho0) hb);have n2_:=Aside0.mk (Kd.N_elder' (N_up HO_6.out) (Kd.R_base ho0) hb);have n3_:=Aside0.mk (Kd.R_lower (Kd.R_newM (M:=fun k_=>(w.heap.size≤k_)) ho0 (below_size (below_up HB.out)) (fun k_ h_=>h_)) (below_size (below_up HB.out)));have n4_:=Aside0.mk (below_step (below_up HB.out) hb);clear HO_0;clear HO_1;clear HO_6;clear HB;have HO_0:=n0_;have HO_1:=n1_;have HO_6:=n2_;have HO344:=n3_;have HB:=n4_;clear n0_ n1_ n2_ n3_ n4_;(try clear hb);(try clear hb2);(try clear hk);(try clear hi);(try clear ho0);obtain ⟨Ao73,co73,eo73⟩:=Kd.R_slice HO344.out;subst eo73)|((with_reducible refine gate_callee (f:=17) rfl ?_);refine goesL_ (some 70) rfl rfl Try.func17 (by kernel_rfl) rfl #[.slice Ao73 t342.length co73,.slice Ao16 x0_3.length co16] rfl (by (try simp only [List.map_toArray,List.map_cons,List.map_nil]);first|done|rfl|(simp only [List.length_drop,List.length_take];rfl)) ?_;(with_reducible refine (thresherref07_Same.calls kj14 _ _ t342 _ _ x0_3 t345 _ ?side1 ?side2 ?side3 ?side4 A55.out).mono ?_);(case side1=>repeat (first|exact (Kd.R_reads' HO344.out).2.2|(with_reducible refine Kd.C_alloc ?_ _)|(with_reducible refine Kd.C_drewN ?_ _)|(with_reducible refine Kd.C_drew ?_)));(case side2=>exact (Kd.R_reads' HO344.out).2.1);(case side3=>repeat (first|exact (Kd.V_reads' HO_0.out).2.2|(with_reducible refine Kd.C_alloc ?_ _)|(with_reducible refine Kd.C_drewN ?_ _)|(with_reducible refine Kd.C_drew ?_)));(case side4=>exact (Kd.V_reads' HO_0.out).2.1);rintro e w' ⟨rfl,⟨nd,rfl⟩⟩;refine ⟨_,rfl,?_⟩)|((with_reducible refine gate_callee (f:=16) rfl ?_);refine goesL_ (some 72) rfl rfl Try.func16 (by kernel_rfl) rfl #[.slice Ao71 t316.length co71,.int .i64 1] rfl (by (try simp only [List.map_toArray,List.map_cons,List.map_nil]);first|done|rfl|(simp only [List.length_drop,List.length_take];rfl)) ?_;(with_reducible refine (grain_Column.calls kj14 _ _ t316 1 t346 _ ?side1 ?side2 A56.out).mono ?_);(case side1=>repeat (first|exact (Kd.N_reads' HO_6.out).2.2|(with_reducible refine Kd.C_alloc ?_ _)|(with_reducible refine Kd.C_drewN ?_ _)|(with_reducible refine Kd.C_drew ?_)));(case side2=>exact (Kd.N_reads' HO_6.out).2.1);rintro e w74 ⟨v347,rfl,ho0,hb⟩;refine ⟨_,rfl,?_⟩;have n0_:=Aside0.mk (Kd.V_elder' (V_up HO_0.out) (Kd.R_base ho0) hb);have n1_:=Aside0.mk (Kd.V_elder' (V_up HO_1.out) (Kd.R_base ho0) hb);have n2_:=Aside0.mk (Kd.N_elder' (N_up HO_6.out) (Kd.R_base ho0) hb);have n3_:=Aside0.mk (Kd.R_elder' (R_up HO344.out) (Kd.R_base ho0) hb);have n4_:=Aside0.mk (Kd.R_lower (Kd.R_new' (Kd.R_newM (M:=fun k_=>(w.heap.size≤k_)) ho0 (below_size (below_up HB.out)) (fun k_ h_=>h_)) (Kd.R_lt (R_up HO344.out))) (below_size (below_up HB.out)));have n5_:=Aside0.mk (below_step (below_up HB.out) hb);clear HO_0;clear HO_1;clear HO_6;clear HO344;clear HB;have HO_0:=n0_;have HO_1:=n1_;have HO_6:=n2_;have HO344:=n3_;have HO348:=n4_;have HB:=n5_;clear n0_ n1_ n2_ n3_ n4_ n5_;(try clear hb);(try clear hb2);(try clear hk);(try clear hi);(try clear ho0);obtain ⟨Ao75,co75,eo75⟩:=Kd.R_slice HO348.out;subst eo75)|((with_reducible refine gate_callee (f:=17) rfl ?_);refine goesL_ (some 74) rfl rfl Try.func17 (by kernel_rfl) rfl #[.slice Ao75 t346.length co75,.slice Ao17 x1_8.length co17] rfl (by (try simp only [List.map_toArray,List.map_cons,List.map_nil]);first|done|rfl|(simp only [List.length_drop,List.length_take];rfl)) ?_;(with_reducible refine (thresherref07_Same.calls kj14 _ _ t346 _ _ x1_8 t349 _ ?side1 ?side2 ?side3 ?side4 A57.out).mono ?_);(case side1=>repeat (first|exact (Kd.R_reads' HO348.out).2.2|(with_reducible refine Kd.C_alloc ?_ _)|(with_reducible refine Kd.C_drewN ?_ _)|(with_reducible refine Kd.C_drew ?_)));(case side2=>exact (Kd.R_reads' HO348.out).2.1);(case side3=>repeat (first|exact (Kd.V_reads' HO_1.out).2.2|(with_reducible refine Kd.C_alloc ?_ _)|(with_reducible refine Kd.C_drewN ?_ _)|(with_reducible refine Kd.C_drew ?_)));(case side4=>exact (Kd.V_reads' HO_1.out).2.1);rintro e w' ⟨rfl,⟨nd,rfl⟩⟩;refine ⟨_,rfl,?_⟩))
           go_ret
           exact ⟨by first|rfl|(simp [errW_none,errW_some] <;> rfl)|(simp [*,errW_none,errW_some] <;> rfl),by repeat (first|(with_reducible first|exact HB.out|apply below_alloc|apply pw_below_drewN|apply below_drew1)|exact HB.out)⟩
         ·replace c58:=Bool.eq_false_iff.mpr c58
          subst c58
          have H1 : (some false)=some r:=by rw [if_neg (show ¬ (false=true) by decide)] at H;exact H
          clear H
          have H:=H1
          clear H1
          obtain rfl:=Option.some.inj H
          obtain ⟨Ao76,co76,eo76⟩:=Kd.N_slice HO_6.out
          subst eo76
          go_wp2_with (first|((with_reducible refine gate_callee (f:=16) rfl ?_);refine goesL_ (some 68) rfl rfl Try.func16 (by kernel_rfl) rfl #[.slice Ao76 t316.length co76,.int .i64 0] rfl (by (try simp only [List.map_toArray,List.map_cons,List.map_nil]);first|done|rfl|(simp only [List.length_drop,List.length_take];rfl)) ?_;(with_reducible refine (grain_Column.calls kj14 _ _ t316 0 t342 _ ?side1 ?side2 A54.out).mono ?_);(case side1=>repeat (first|exact (Kd.N_reads' HO_6.out).2.2|(with_reducible refine Kd.C_alloc ?_ _)|(with_reducible refine Kd.C_drewN ?_ _)|(with_reducible refine Kd.C_drew ?_)));(case side2=>exact (Kd.N_reads' HO_6.out).2.1);rintro e w77 ⟨v343,rfl,ho0,hb⟩;refine ⟨_,rfl,?_⟩;have n0_:=Aside0.mk (Kd.V_elder' (V_up HO_0.out) (Kd.R_base ho0) hb);have n1_:=Aside0.mk (Kd.V_elder' (V_up HO_1.out) (Kd.R_base ho0) hb);have n2_:=Aside0.mk (Kd.N_elder' (N_up HO_6.out) (Kd.R_base ho0) hb);have n3_:=Aside0.mk (Kd.R_lower (Kd.R_newM (M:=fun k_=>(w.heap.size≤k_)) ho0 (below_size (below_up HB.out)) (fun k_ h_=>h_)) (below_size (below_up HB.out)));have n4_:=Aside0.mk (below_step (below_up HB.out) hb);clear HO_0;clear HO_1;clear HO_6;clear HB;have HO_0:=n0_;have HO_1:=n1_;have HO_6:=n2_;have HO344:=n3_;have HB:=n4_;clear n0_ n1_ n2_ n3_ n4_;(try clear hb);(try clear hb2);(try clear hk);(try clear hi);(try clear ho0);obtain ⟨Ao78,co78,eo78⟩:=Kd.R_slice HO344.out;subst eo78)|((with_reducible refine gate_callee (f:=17) rfl ?_);refine goesL_ (some 70) rfl rfl Try.func17 (by kernel_rfl) rfl #[.slice Ao78 t342.length co78,.slice Ao16 x0_3.length co16] rfl (by (try simp only [List.map_toArray,List.map_cons,List.map_nil]);first|done|rfl|(simp only [List.length_drop,List.length_take];rfl)) ?_;(with_reducible refine (thresherref07_Same.calls kj14 _ _ t342 _ _ x0_3 t345 _ ?side1 ?side2 ?side3 ?side4 A55.out).mono ?_);(case side1=>repeat (first|exact (Kd.R_reads' HO344.out).2.2|(with_reducible refine Kd.C_alloc ?_ _)|(with_reducible refine Kd.C_drewN ?_ _)|(with_reducible refine Kd.C_drew ?_)));(case side2=>exact (Kd.R_reads' HO344.out).2.1);(case side3=>repeat (first|exact (Kd.V_reads' HO_0.out).2.2|(with_reducible refine Kd.C_alloc ?_ _)|(with_reducible refine Kd.C_drewN ?_ _)|(with_reducible refine Kd.C_drew ?_)));(case side4=>exact (Kd.V_reads' HO_0.out).2.1);rintro e w' ⟨rfl,⟨nd,rfl⟩⟩;refine ⟨_,rfl,?_⟩)|((with_reducible refine gate_callee (f:=16) rfl ?_);refine goesL_ (some 72) rfl rfl Try.func16 (by kernel_rfl) rfl #[.slice Ao76 t316.length co76,.int .i64 1] rfl (by (try simp only [List.map_toArray,List.map_cons,List.map_nil]);first|done|rfl|(simp only [List.length_drop,List.length_take];rfl)) ?_;(with_reducible refine (grain_Column.calls kj14 _ _ t316 1 t346 _ ?side1 ?side2 A56.out).mono ?_);(case side1=>repeat (first|exact (Kd.N_reads' HO_6.out).2.2|(with_reducible refine Kd.C_alloc ?_ _)|(with_reducible refine Kd.C_drewN ?_ _)|(with_reducible refine Kd.C_drew ?_)));(case side2=>exact (Kd.N_reads' HO_6.out).2.1);rintro e w79 ⟨v347,rfl,ho0,hb⟩;refine ⟨_,rfl,?_⟩;have n0_:=Aside0.mk (Kd.V_elder' (V_up HO_0.out) (Kd.R_base ho0) hb);have n1_:=Aside0.mk (Kd.V_elder' (V_up HO_1.out) (Kd.R_base ho0) hb);have n2_:=Aside0.mk (Kd.N_elder' (N_up HO_6.out) (Kd.R_base ho0) hb);have n3_:=Aside0.mk (Kd.R_elder' (R_up HO344.out) (Kd.R_base ho0) hb);have n4_:=Aside0.mk (Kd.R_lower (Kd.R_new' (Kd.R_newM (M:=fun k_=>(w.heap.size≤k_)) ho0 (below_size (below_up HB.out)) (fun k_ h_=>h_)) (Kd.R_lt (R_up HO344.out))) (below_size (below_up HB.out)));have n5_:=Aside0.mk (below_step (below_up HB.out) hb);clear HO_0;clear HO_1;clear HO_6;clear HO344;clear HB;have HO_0:=n0_;have HO_1:=n1_;have HO_6:=n2_;have HO344:=n3_;have HO348:=n4_;have HB:=n5_;clear n0_ n1_ n2_ n3_ n4_ n5_;(try clear hb);(try clear hb2);(try clear hk);(try clear hi);(try clear ho0);obtain ⟨Ao80,co80,eo80⟩:=Kd.R_slice HO348.out;subst eo80)|((with_reducible refine gate_callee (f:=17) rfl ?_);refine goesL_ (some 74) rfl rfl Try.func17 (by kernel_rfl) rfl #[.slice Ao80 t346.length co80,.slice Ao17 x1_8.length co17] rfl (by (try simp only [List.map_toArray,List.map_cons,List.map_nil]);first|done|rfl|(simp only [List.length_drop,List.length_take];rfl)) ?_;(with_reducible refine (thresherref07_Same.calls kj14 _ _ t346 _ _ x1_8 t349 _ ?side1 ?side2 ?side3 ?side4 A57.out).mono ?_);(case side1=>repeat (first|exact (Kd.R_reads' HO348.out).2.2|(with_reducible refine Kd.C_alloc ?_ _)|(with_reducible refine Kd.C_drewN ?_ _)|(with_reducible refine Kd.C_drew ?_)));(case side2=>exact (Kd.R_reads' HO348.out).2.1);(case side3=>repeat (first|exact (Kd.V_reads' HO_1.out).2.2|(with_reducible refine Kd.C_alloc ?_ _)|(with_reducible refine Kd.C_drewN ?_ _)|(with_reducible refine Kd.C_drew ?_)));(case side4=>exact (Kd.V_reads' HO_1.out).2.1);rintro e w' ⟨rfl,⟨nd,rfl⟩⟩;refine ⟨_,rfl,?_⟩))
          go_ret
          exact ⟨by first|rfl|(simp [errW_none,errW_some] <;> rfl)|(simp [*,errW_none,errW_some] <;> rfl),by repeat (first|(with_reducible first|exact HB.out|apply below_alloc|apply pw_below_drewN|apply below_drew1)|exact HB.out)⟩
        ·replace c53:=Bool.eq_false_iff.mpr c53
         subst c53
         have H1 : (if t302=true then (some ((t316.length : Int) == 0)) else (some false))=some r:=by rw [if_neg (show ¬ (false=true) by decide)] at H;exact H
         clear H
         have H:=H1
         clear H1
         by_cases c81 : t302=true
         ·subst c81
          have H1 : (some ((t316.length : Int) == 0))=some r:=by rw [if_pos rfl] at H;exact H
          clear H
          have H:=H1
          clear H1
          obtain rfl:=Option.some.inj H
          obtain ⟨Ao82,co82,eo82⟩:=Kd.N_slice HO_6.out
          subst eo82
          go_wp2
          go_ret
          exact ⟨by first|rfl|(simp [errW_none,errW_some] <;> rfl)|(simp [*,errW_none,errW_some] <;> rfl),by repeat (first|(with_reducible first|exact HB.out|apply below_alloc|apply pw_below_drewN|apply below_drew1)|exact HB.out)⟩
         ·replace c81:=Bool.eq_false_iff.mpr c81
          subst c81
          have H1 : (some false)=some r:=by rw [if_neg (show ¬ (false=true) by decide)] at H;exact H
          clear H
          have H:=H1
          clear H1
          obtain rfl:=Option.some.inj H
          go_wp2
          go_ret
          exact ⟨by first|rfl|(simp [errW_none,errW_some] <;> rfl)|(simp [*,errW_none,errW_some] <;> rfl),by repeat (first|(with_reducible first|exact HB.out|apply below_alloc|apply pw_below_drewN|apply below_drew1)|exact HB.out)⟩
def thresherref10_Split.l0 : Nat→List (List (S45))→List (List (List (S45)))→List (List (S45))→Int→List Int→Int→Int→Int→Option ((List (List (List (S45)))))
 | 0,_,_,_,_,_,_,_,_=>none
 | k + 1,x1,x5,x6,x7,x351000,x351001,x351002,x351003=>if x7 < (x1.length : Int) then (if 0≤x7 then (if x6.length < 5864062014805 then ((some (x6 ++ [rd_L3 x1 x7] : List (List (S45)))).bind fun y358=>(if (y358.length : Int)=x351003 then (if x5.length < 5864062014805 then (thresherref10_Split.l0 k x1 (x5 ++ [y358]) (([] : List (List (S45)))) (wrap64 (x7 + 1)) x351000 x351001 x351002 x351003) else (none)) else (if x7=(wrap64 ((x1.length : Int) - 1)) then (if x5.length < 5864062014805 then (thresherref10_Split.l0 k x1 (x5 ++ [y358]) (([] : List (List (S45)))) (wrap64 (x7 + 1)) x351000 x351001 x351002 x351003) else (none)) else (thresherref10_Split.l0 k x1 x5 y358 (wrap64 (x7 + 1)) x351000 x351001 x351002 x351003)))) else (none)) else (none)) else (some x5)
def thresherref10_Split.f (k : Nat) (l0_0 : List Int) (a0_1 : Int) (a0_2 : Int) (a0_3 : Int) (l1 : List (List (S45))) : Option ((List (List (List (S45))))):=thresherref10_Split.l0 k l1 (([] : List (List (List (S45))))) (([] : List (List (S45)))) 0 l0_0 a0_1 a0_2 a0_3
theorem thresherref10_Split.mono_l : ∀ k,(∀ y0 y1 y2 y3 y4 y5 y6 y7,LeO (thresherref10_Split.l0 k y0 y1 y2 y3 y4 y5 y6 y7) (thresherref10_Split.l0 (k + 1) y0 y1 y2 y3 y4 y5 y6 y7))
 | 0=>fun _ _ _ _ _ _ _ _ r h=>by simp [thresherref10_Split.l0] at h
 | k + 1=>by
  have ih0:=thresherref10_Split.mono_l k
  ·intro y0 y1 y2 y3 y4 y5 y6 y7
   unfold thresherref10_Split.l0
   repeat' first
   | (with_reducible exact ih0 _ _ _ _ _ _ _ _)
   | (with_reducible exact LeO.refl _)
   | (with_reducible exact LeO.none _)
   | (with_reducible refine LeO.ite ?_ ?_)
   | (with_reducible refine LeO.bind ?_ (fun _=>?_))
   | exact ih0 _ _ _ _ _ _ _ _
   | exact LeO.none _
   | refine LeO.ite ?_ ?_
   | refine LeO.bind ?_ (fun _=>?_)
theorem thresherref10_Split.mono : ∀ a0 a1 a2 a3 a4 k,LeO (thresherref10_Split.f k a0 a1 a2 a3 a4) (thresherref10_Split.f (k + 1) a0 a1 a2 a3 a4):=by
 intro a0 a1 a2 a3 a4 k
 have ih0:=thresherref10_Split.mono_l k
 unfold thresherref10_Split.f
 repeat' first
   | (with_reducible exact ih0 _ _ _ _ _ _ _ _)
   | (with_reducible exact LeO.refl _)
   | (with_reducible exact LeO.none _)
   | (with_reducible refine LeO.ite ?_ ?_)
   | (with_reducible refine LeO.bind ?_ (fun _=>?_))
   | exact ih0 _ _ _ _ _ _ _ _
   | exact LeO.none _
   | refine LeO.ite ?_ ?_
   | refine LeO.bind ?_ (fun _=>?_)
set_option maxHeartbeats 8000000 in
set_option maxRecDepth 100000 in
theorem thresherref10_Split.calls (k : Nat) (A0_0 : Option Addr) (c0_0 : Nat) (l0_0 : List Int) (a0_1 : Int) (a0_2 : Int) (a0_3 : Int) (P1_ : Nat→Prop) (A1 : Option Addr) (c1 : Nat) (l1 : List (List (S45))) (r : List (List (List (S45)))) (w : World) (hr0_0 : Kd.C (Kd.int .i64) w A0_0 l0_0.length l0_0) (hc0_0 : l0_0.length≤c0_0) (hs1 : Kd.V (Kd.slice 45 k45) 38 w w.heap.size (fun k_=>P1_ k_) (.slice A1 l1.length c1) l1) (h : thresherref10_Split.f k l0_0 a0_1 a0_2 a0_3 l1=some r) :
  Calls Try.prog 18 #[.agg #[.slice A0_0 l0_0.length c0_0,.int .i64 a0_1,.int .i64 a0_2,.int .i64 a0_3],.slice A1 l1.length c1] w fun e w'=>∃ v0_ : Value,e=.returned (v0_)∧Kd.N (Kd.slice 38 (Kd.slice 45 k45)) 25 w' w.heap.size (fun k_=>(P1_ k_ ∨ w.heap.size≤k_)) v0_ r∧Below w.heap.size w w':=by
 have hu29:=Try.underlying29
 have HR0_0:=Aside0.mk hr0_0
 have HC0_0:=Aside0.mk hc0_0
 clear hr0_0 hc0_0
 have HO1:=Aside0.mk (show Kd.V (Kd.slice 45 k45) 38 w w.heap.size (fun k_=>(P1_ k_ ∨ w.heap.size≤k_)) (.slice A1 l1.length c1) l1 from Kd.V_mono hs1 (fun k_ hk=>.inl hk))
 have HB:=Aside0.mk (Below.refl w.heap.size w)
 have H : (thresherref10_Split.l0 k l1 (([] : List (List (List (S45))))) (([] : List (List (S45)))) 0 l0_0 a0_1 a0_2 a0_3)=some r:=h
 clear h
 obtain ⟨y351,hy351⟩ : ∃ y_ : List (List (List (S45))),y_=(([] : List (List (List (S45))))):=⟨_,rfl⟩
 replace H : (thresherref10_Split.l0 k l1 y351 (([] : List (List (S45)))) 0 l0_0 a0_1 a0_2 a0_3)=some r:=by first|(rw [hy351];with_reducible exact H)|(have H2_:=(Option.bind_some _ _).symm.trans H;rw [hy351];with_reducible exact H2_)|(have H2_:=(Option.bind_some _ _).symm.trans H;with_reducible exact H2_)|with_reducible exact H|(rw [hy351];exact H)|exact H
 have Ny351:=Aside0.mk hy351
 clear hy351
 obtain ⟨y354,hy354⟩ : ∃ y_ : List (List (S45)),y_=(([] : List (List (S45)))):=⟨_,rfl⟩
 replace H : (thresherref10_Split.l0 k l1 y351 y354 0 l0_0 a0_1 a0_2 a0_3)=some r:=by first|(rw [hy354];with_reducible exact H)|(have H2_:=(Option.bind_some _ _).symm.trans H;rw [hy354];with_reducible exact H2_)|(have H2_:=(Option.bind_some _ _).symm.trans H;with_reducible exact H2_)|with_reducible exact H|(rw [hy354];exact H)|exact H
 have Ny354:=Aside0.mk hy354
 clear hy354
 have H':=Aside0.mk H
 clear H
 go_enter Try.func18,Try.ntmps18
 go_wp2_with (first|((with_reducible refine gate_dst (N:=2) rfl ?_);(try (refine gate_guard (by rfl) ?_;dsimp only));refine box_event ?hg (N:=2) ?hd (cs:=#[.slice A0_0 l0_0.length c0_0,.int .i64 a0_1,.int .i64 a0_2,.int .i64 a0_3]) (t:=29) ?hr ?_;(case hd=>rfl);(case hg=>rfl);(case hr=>first|(go_simp;done)|(go_simp;rfl));intro gb350 hg w3 hbox hb;have n0_:=Aside0.mk (Kd.V_below (Kd.V_elderB (V_up HO1.out) gb350 (Nat.le_of_eq hg.symm)) hb);have n1_:=Aside0.mk (below_step (below_up HB.out) hb);have n2_:=Aside0.mk (hbox);have n3_:=Aside0.mk ((by rw [hg];exact (below_size (below_up HB.out)) : w.heap.size≤gb350));have n4_:=Aside0.mk ((by rw [hg];exact (below_size (below_up HB.out)) : w.heap.size≤gb350));clear HO1;clear HB;have HO1:=n0_;have HB:=n1_;have BK350:=n2_;have GW350:=n3_;have GE350:=n4_;clear n0_ n1_ n2_ n3_ n4_;clear hb hbox hg)|((with_reducible refine gate_dst (N:=8) rfl ?_);(try (refine gate_guard (by rfl) ?_;dsimp only));refine Kd.N_lit (Kd.slice 38 (Kd.slice 45 k45)) _ 25 ?hg (N':=8) ?hd (xs:=([] : List (List (List (S45))))) (inner:=[]) (ok:=(fun k_=>(P1_ k_ ∨ w.heap.size≤k_)∧k_≠gb350)) (okp:=(fun k_=>(P1_ k_ ∨ w.heap.size≤k_)∧k_≠gb350)) ?hr ?hp (fun _ hk=>hk) ((show ∀ k_,w3.heap.size≤k_→(fun k_=>(P1_ k_ ∨ w.heap.size≤k_)∧k_≠gb350) k_ from fun k_ hk=>⟨(.inr (Nat.le_trans (below_size (by repeat (first|(with_reducible first|exact HB.out|apply below_alloc|apply pw_below_drewN|apply below_drew1|refine below_set ?_ GE350.out)|exact HB.out))) hk)),Kd.freshB (g:=gb350) (o:=.cells #[.slice A0_0 l0_0.length c0_0,.int .i64 a0_1,.int .i64 a0_2,.int .i64 a0_3] 29 (0,0)) (blk_up BK350.out) k_ hk⟩) _ (Nat.le_refl _)) (Below.refl _ _) (Nat.le_refl _) (by simp) ?_;(case hd=>rfl);(case hg=>rfl);(case hr=>first|(go_simp;done)|(go_simp;rfl));(case hp=>exact (Reps.none _ _));intro v352 w4 ho5 hb hg_ hnew_;clear hg_ hnew_;(first|rw [← Ny351.out] at ho5|(simp only [Int.reduceToNat] at ho5;rw [← Ny351.out] at ho5));have n0_:=Aside0.mk (Kd.V_elder' (V_up HO1.out) (Kd.N_base ho5) hb);have n1_:=Aside0.mk (Kd.N_lower ho5 (below_size (by repeat (first|(with_reducible first|exact HB.out|apply below_alloc|apply pw_below_drewN|apply below_drew1|refine below_set ?_ GE350.out)|exact HB.out))));have n2_:=Aside0.mk (blk_below (g:=gb350) (o:=.cells #[.slice A0_0 l0_0.length c0_0,.int .i64 a0_1,.int .i64 a0_2,.int .i64 a0_3] 29 (0,0)) (blk_up BK350.out) hb);have n3_:=Aside0.mk (below_step (by repeat (first|(with_reducible first|exact HB.out|apply below_alloc|apply pw_below_drewN|apply below_drew1|refine below_set ?_ GE350.out)|exact HB.out)) hb);clear HO1;clear BK350;clear HB;have HO1:=n0_;have HO353:=n1_;have BK350:=n2_;have HB:=n3_;clear n0_ n1_ n2_ n3_;clear hb ho5)|((with_reducible refine gate_dst (N:=9) rfl ?_);(try (refine gate_guard (by rfl) ?_;dsimp only));refine Kd.N_lit (Kd.slice 45 k45) _ 38 ?hg (N':=9) ?hd (xs:=([] : List (List (S45)))) (inner:=[]) (ok:=(fun k_=>(P1_ k_ ∨ w.heap.size≤k_)∧some k_≠(v352 : Value).ownBlock∧k_≠gb350)) (okp:=(fun k_=>(P1_ k_ ∨ w.heap.size≤k_)∧some k_≠(v352 : Value).ownBlock∧k_≠gb350)) ?hr ?hp (fun _ hk=>hk) ((show ∀ k_,w4.heap.size≤k_→(fun k_=>(P1_ k_ ∨ w.heap.size≤k_)∧some k_≠(v352 : Value).ownBlock∧k_≠gb350) k_ from fun k_ hk=>⟨(.inr (Nat.le_trans (below_size (by repeat (first|(with_reducible first|exact HB.out|apply below_alloc|apply pw_below_drewN|apply below_drew1|refine below_set ?_ GE350.out)|exact HB.out))) hk)),Kd.fresh' (Kd.N_lt (N_up HO353.out)) k_ hk,Kd.freshB (g:=gb350) (o:=.cells #[.slice A0_0 l0_0.length c0_0,.int .i64 a0_1,.int .i64 a0_2,.int .i64 a0_3] 29 (0,0)) (blk_up BK350.out) k_ hk⟩) _ (Nat.le_refl _)) (Below.refl _ _) (Nat.le_refl _) (by simp) ?_;(case hd=>rfl);(case hg=>rfl);(case hr=>first|(go_simp;done)|(go_simp;rfl));(case hp=>exact (Reps.none _ _));intro v355 w6 ho7 hb hg_ hnew_;clear hg_ hnew_;(first|rw [← Ny354.out] at ho7|(simp only [Int.reduceToNat] at ho7;rw [← Ny354.out] at ho7));have n0_:=Aside0.mk (Kd.V_elder' (V_up HO1.out) (Kd.N_base ho7) hb);have n1_:=Aside0.mk (Kd.N_elder' (N_up HO353.out) (Kd.N_base ho7) hb);have n2_:=Aside0.mk (Kd.N_lower ho7 (below_size (by repeat (first|(with_reducible first|exact HB.out|apply below_alloc|apply pw_below_drewN|apply below_drew1|refine below_set ?_ GE350.out)|exact HB.out))));have n3_:=Aside0.mk (blk_below (g:=gb350) (o:=.cells #[.slice A0_0 l0_0.length c0_0,.int .i64 a0_1,.int .i64 a0_2,.int .i64 a0_3] 29 (0,0)) (blk_up BK350.out) hb);have n4_:=Aside0.mk (below_step (by repeat (first|(with_reducible first|exact HB.out|apply below_alloc|apply pw_below_drewN|apply below_drew1|refine below_set ?_ GE350.out)|exact HB.out)) hb);clear HO1;clear HO353;clear BK350;clear HB;have HO1:=n0_;have HO353:=n1_;have HO356:=n2_;have BK350:=n3_;have HB:=n4_;clear n0_ n1_ n2_ n3_ n4_;clear hb ho7))
 go_loopg [5,6,7] k (fun kq v5 v6 v7 w'=>∃ (x5_1 : List (List (List (S45)))) (x6_1 : List (List (S45))) (x7_1 : Int),v7=.int .i64 x7_1∧Aside0 (thresherref10_Split.l0 kq l1 x5_1 x6_1 x7_1 l0_0 a0_1 a0_2 a0_3=some r)∧Aside0 (kq≤k)∧Aside0 (Kd.V (Kd.slice 45 k45) 38 w' w.heap.size (fun k_=>(P1_ k_ ∨ w.heap.size≤k_)∧some k_≠(v5 : Value).ownBlock∧some k_≠(v6 : Value).ownBlock∧k_≠gb350) (.slice A1 l1.length c1) l1)∧Aside0 (Kd.N (Kd.slice 38 (Kd.slice 45 k45)) 25 w' w.heap.size (fun k_=>(P1_ k_ ∨ w.heap.size≤k_)∧some k_≠(v6 : Value).ownBlock∧k_≠gb350) v5 x5_1)∧Aside0 (Kd.N (Kd.slice 45 k45) 38 w' w.heap.size (fun k_=>(P1_ k_ ∨ w.heap.size≤k_)∧some k_≠(v5 : Value).ownBlock∧k_≠gb350) v6 x6_1)∧Aside0 (w'.heap[gb350]?=some (.cells #[(.slice A0_0 l0_0.length c0_0),.int .i64 a0_1,.int .i64 a0_2,.int .i64 a0_3] 29 (0,0)))∧Aside0 (Below w.heap.size w w'))
 case atStart=>exact ⟨(y351),(y354),(0),(by first|rfl|(simp;done)|(simp [*];done)),H',⟨Nat.le_refl _⟩,⟨by (with_reducible repeat (first|apply Kd.V_alloc|apply Kd.V_drewN|apply Kd.V_drew));exact Kd.V_mono HO1.out (fun _ hk=>⟨hk.1.1.1,⟨hk.1.2,⟨hk.2,hk.1.1.2⟩⟩⟩)⟩,⟨by (with_reducible repeat (first|apply Kd.N_alloc|apply Kd.N_drewN|apply Kd.N_drew));exact Kd.N_mono HO353.out (fun _ hk=>⟨hk.1.1,⟨hk.2,hk.1.2⟩⟩)⟩,⟨by (with_reducible repeat (first|apply Kd.N_alloc|apply Kd.N_drewN|apply Kd.N_drew));exact HO356.out⟩,⟨by (with_reducible repeat (first|refine blk_drewN ?_ _|refine blk_drew ?_|refine blk_alloc ?_ _));exact BK350.out⟩,⟨by repeat (first|(with_reducible first|exact HB.out|apply below_alloc|apply pw_below_drewN|apply below_drew1|refine below_set ?_ GE350.out)|exact HB.out)⟩⟩
 case round =>
  clear H'
  try clear c1
  try clear p2
  obtain ⟨x5_1,x6_1,x7_1,rfl,HA,HK1,HO_1,HO_5,HO_6,BK350,HB⟩:=hrel
  cases gk with
  | zero=>exact absurd HA.out (by simp [thresherref10_Split.l0])
  | succ k1 =>
   have H:=HA.out
   clear HA
   simp only [thresherref10_Split.l0] at H
   by_cases c8 : x7_1 < (l1.length : Int)
   ·rw [if_pos c8] at H
    have c8b0 : decide (x7_1 < (l1.length : Int))=true:=decide_eq_true c8
    clear c8
    by_cases c9 : 0≤x7_1
    ·rw [if_pos c9] at H
     have c9b0 : decide (0≤x7_1)=true:=decide_eq_true c9
     clear c9
     by_cases c10 : x6_1.length < 5864062014805
     ·rw [if_pos c10] at H
      have LMc10:=Aside0.mk c10
      clear c10
      obtain ⟨y358,hy358⟩ : ∃ y_ : List (List (S45)),y_=(x6_1 ++ [rd_L3 l1 x7_1]):=⟨_,rfl⟩
      replace H : (if (y358.length : Int)=a0_3 then (if x5_1.length < 5864062014805 then (thresherref10_Split.l0 k1 l1 (x5_1 ++ [y358]) (([] : List (List (S45)))) (wrap64 (x7_1 + 1)) l0_0 a0_1 a0_2 a0_3) else (none)) else (if x7_1=(wrap64 ((l1.length : Int) - 1)) then (if x5_1.length < 5864062014805 then (thresherref10_Split.l0 k1 l1 (x5_1 ++ [y358]) (([] : List (List (S45)))) (wrap64 (x7_1 + 1)) l0_0 a0_1 a0_2 a0_3) else (none)) else (thresherref10_Split.l0 k1 l1 x5_1 y358 (wrap64 (x7_1 + 1)) l0_0 a0_1 a0_2 a0_3)))=some r:=by first|(rw [hy358];with_reducible exact H)|(have H2_:=(Option.bind_some _ _).symm.trans H;rw [hy358];with_reducible exact H2_)|(have H2_:=(Option.bind_some _ _).symm.trans H;with_reducible exact H2_)|with_reducible exact H|(rw [hy358];exact H)|exact H
      have Ny358:=Aside0.mk hy358
      clear hy358
      by_cases c11 : (y358.length : Int)=a0_3
      ·rw [if_pos c11] at H
       have c11b0 : ((y358.length : Int) == a0_3)=true:=beq_iff_eq.mpr c11
       have c11b1 : ((y358.length : Int) != a0_3)=false:=bne_eq_false_iff_eq.mpr c11
       clear c11
       by_cases c12 : x5_1.length < 5864062014805
       ·rw [if_pos c12] at H
        have LMc12:=Aside0.mk c12
        clear c12
        obtain ⟨y361,hy361⟩ : ∃ y_ : List (List (List (S45))),y_=(x5_1 ++ [y358]):=⟨_,rfl⟩
        replace H : (thresherref10_Split.l0 k1 l1 y361 (([] : List (List (S45)))) (wrap64 (x7_1 + 1)) l0_0 a0_1 a0_2 a0_3)=some r:=by first|(rw [hy361];with_reducible exact H)|(have H2_:=(Option.bind_some _ _).symm.trans H;rw [hy361];with_reducible exact H2_)|(have H2_:=(Option.bind_some _ _).symm.trans H;with_reducible exact H2_)|with_reducible exact H|(rw [hy361];exact H)|exact H
        have Ny361:=Aside0.mk hy361
        clear hy361
        obtain ⟨y364,hy364⟩ : ∃ y_ : List (List (S45)),y_=(([] : List (List (S45)))):=⟨_,rfl⟩
        replace H : (thresherref10_Split.l0 k1 l1 y361 y364 (wrap64 (x7_1 + 1)) l0_0 a0_1 a0_2 a0_3)=some r:=by first|(rw [hy364];with_reducible exact H)|(have H2_:=(Option.bind_some _ _).symm.trans H;rw [hy364];with_reducible exact H2_)|(have H2_:=(Option.bind_some _ _).symm.trans H;with_reducible exact H2_)|with_reducible exact H|(rw [hy364];exact H)|exact H
        have Ny364:=Aside0.mk hy364
        clear hy364
        have H':=Aside0.mk H
        clear H
        have p357 : 0≤(x7_1 : Int):=of_decide_eq_true (by first|(with_reducible assumption)|assumption)
        have q357 : x7_1 < (l1.length : Int):=of_decide_eq_true (by first|(with_reducible assumption)|assumption)
        obtain ⟨ad357,A357_0,c357_0,e357,hx357_0,hl357_0,hi357_0⟩:=at_L3 (Kd.V_reads' HO_1.out).2.2 x7_1 p357 q357
        cases e357
        obtain ⟨ce357,hce357,hMe357,hcc357⟩:=Kd.V_get HO_1.out [] x7_1 p357 (by first|exact q357|exact of_decide_eq_true (by first|(with_reducible assumption)|assumption)|(have e_:=(Kd.V_reads' HO_1.out).1;omega))
        obtain ⟨ua357_0,uc357_0,rfl,ul357_0,ge357_0⟩:=Kd.FK_slice_open hMe357
        have hv357_0:=hcc357 0 _ rfl
        rw [Nat.add_zero,show ((Kd.slice 45 k45)).sz=1 from rfl,Nat.mul_one] at hv357_0
        replace hv357_0:=Option.some.inj (hv357_0.symm.trans hx357_0)
        injection hv357_0 with hva_ hvn_ hvc_
        rw [hva_] at ge357_0
        rw [hvc_] at ul357_0
        have HL357_0:=Aside0.mk (show Kd.V k45 45 _ w.heap.size _ _ (rd_L3 l1 x7_1) from Kd.V_mk ul357_0 ge357_0)
        clear hva_ hvn_ hvc_ ge357_0 ul357_0
        clear hcc357 hce357
        have HR357_0:=Aside0.mk hi357_0
        have HC357_0:=Aside0.mk hl357_0
        clear hi357_0 hl357_0
        replace p357:=eq_true p357
        replace q357:=eq_true q357
        go_wp2_with (first|((with_reducible refine gate_builtin (b:=.append) (xs:=#[.tmp 16,.tmp 21]) rfl ?_);(try (refine gate_guard (by rfl) ?_;dsimp only));at_builtin;refine Kd.N_append (Kd.slice 45 k45) (w0:=w) w.heap.size rfl (.tmp 16) (.tmp 21) 25 38 (.slice none 0 0) 24 rfl Try.underlying25 info38 rfl (by decide) (by omega) u6 x6_1 (rd_L3 l1 x7_1) [.slice A357_0 (rd_L3 l1 x7_1).length c357_0] (fun k_=>(P1_ k_ ∨ w.heap.size≤k_)∧some k_≠(u5 : Value).ownBlock∧k_≠gb350) (fun k_=>((fun k_=>(P1_ k_ ∨ w.heap.size≤k_)∧some k_≠(u5 : Value).ownBlock∧k_≠gb350)) k_∧some k_≠(u6 : Value).ownBlock) rfl rfl ?aP (fun _ hk=>hk) ?aF ?aO ?aB ?aS ?aL ?_;(case aP=>exact (Kd.FK_slice_mk (Kd.V_reads' (Kd.V_mono (ok':=(fun k_=>((fun k_=>(P1_ k_ ∨ w.heap.size≤k_)∧some k_≠(u5 : Value).ownBlock∧k_≠gb350)) k_∧some k_≠(u6 : Value).ownBlock)) (HL357_0.out) (fun k_ hk=>⟨⟨hk.1,⟨hk.2.1,hk.2.2.2⟩⟩,hk.2.2.1⟩))).2.1 (Kd.V_F (Kd.V_mono (ok':=(fun k_=>((fun k_=>(P1_ k_ ∨ w.heap.size≤k_)∧some k_≠(u5 : Value).ownBlock∧k_≠gb350)) k_∧some k_≠(u6 : Value).ownBlock)) (HL357_0.out) (fun k_ hk=>⟨⟨hk.1,⟨hk.2.1,hk.2.2.2⟩⟩,hk.2.2.1⟩)))));(case aB=>exact (by repeat (first|(with_reducible first|exact HB.out|apply below_alloc|apply pw_below_drewN|apply below_drew1|refine below_set ?_ GE350.out)|exact HB.out)));(case aF=>exact (fun k_ hk=>⟨(.inr (Nat.le_trans (below_size (by repeat (first|(with_reducible first|exact HB.out|apply below_alloc|apply pw_below_drewN|apply below_drew1|refine below_set ?_ GE350.out)|exact HB.out))) hk)),Kd.fresh' (Kd.N_lt (N_up HO_5.out)) k_ hk,Kd.freshB (g:=gb350) (o:=.cells #[.slice A0_0 l0_0.length c0_0,.int .i64 a0_1,.int .i64 a0_2,.int .i64 a0_3] 29 (0,0)) (blk_up BK350.out) k_ hk⟩));(case aO=>exact (N_up HO_6.out));(case aS=>exact (below_size (by repeat (first|(with_reducible first|exact HB.out|apply below_alloc|apply pw_below_drewN|apply below_drew1|refine below_set ?_ GE350.out)|exact HB.out))));(case aL=>have:=LMc10.out;omega);intro v359 w13 ho hb hg hat;rw [← Ny358.out] at ho;have n0_:=Aside0.mk (Kd.V_afterv (ok:=(fun k_=>(P1_ k_ ∨ w.heap.size≤k_)∧some k_≠(u5 : Value).ownBlock∧k_≠gb350)) (by (with_reducible repeat (first|apply Kd.V_alloc|apply Kd.V_drewN|apply Kd.V_drew));exact Kd.V_mono HO_1.out (fun _ hk=>⟨⟨hk.1,⟨hk.2.1,hk.2.2.2⟩⟩,hk.2.2.1⟩)) hg hat);have n1_:=Aside0.mk (Kd.N_afterv (ok:=(fun k_=>(P1_ k_ ∨ w.heap.size≤k_)∧k_≠gb350)) (by (with_reducible repeat (first|apply Kd.N_alloc|apply Kd.N_drewN|apply Kd.N_drew));exact Kd.N_mono HO_5.out (fun _ hk=>⟨⟨hk.1,hk.2.2⟩,hk.2.1⟩)) hg hat);have n2_:=Aside0.mk (blk_grown (g:=gb350) (o:=.cells #[.slice A0_0 l0_0.length c0_0,.int .i64 a0_1,.int .i64 a0_2,.int .i64 a0_3] 29 (0,0)) (blk_up BK350.out) hg (Kd.N_ne HO_6.out BK350.out (by decide)));have n3_:=Aside0.mk (Kd.V_afterv (ok:=(fun k_=>(P1_ k_ ∨ w.heap.size≤k_)∧some k_≠(u5 : Value).ownBlock∧k_≠gb350)) (by (with_reducible repeat (first|apply Kd.V_alloc|apply Kd.V_drewN|apply Kd.V_drew));exact Kd.V_mono HL357_0.out (fun _ hk=>⟨⟨hk.1,⟨hk.2.1,hk.2.2.2⟩⟩,hk.2.2.1⟩)) hg hat);have n4_:=Aside0.mk (hb);have n5_:=Aside0.mk (ho);clear HO_1;clear HO_5;clear BK350;clear HL357_0;clear HB;clear HO_6;have HO_1:=n0_;have HO_5:=n1_;have BK350:=n2_;have HL357_0:=n3_;have HB:=n4_;have HO360:=n5_;clear n0_ n1_ n2_ n3_ n4_ n5_;clear ho hb hg hat;obtain ⟨Ao14,co14,eo14⟩:=Kd.N_slice HO360.out;subst eo14;have hcz15_0 : w13.cell? ⟨gb350,0,none⟩=some (.slice A0_0 l0_0.length c0_0):=(blk_cell BK350.out 0).trans rfl;have hcz15_1 : w13.cell? ⟨gb350,1,none⟩=some (.int .i64 a0_1):=(blk_cell BK350.out 1).trans rfl;have hcz15_2 : w13.cell? ⟨gb350,2,none⟩=some (.int .i64 a0_2):=(blk_cell BK350.out 2).trans rfl;have hcz15_3 : w13.cell? ⟨gb350,3,none⟩=some (.int .i64 a0_3):=(blk_cell BK350.out 3).trans rfl;have hfz15_0:=blk_frozen BK350.out 0;have hfz15_1:=blk_frozen BK350.out 1;have hfz15_2:=blk_frozen BK350.out 2;have hfz15_3:=blk_frozen BK350.out 3)|((with_reducible refine gate_builtin (b:=.append) (xs:=#[.tmp 35,.tmp 37]) rfl ?_);(try (refine gate_guard (by rfl) ?_;dsimp only));at_builtin;refine Kd.N_append (Kd.slice 38 (Kd.slice 45 k45)) (w0:=w) w.heap.size rfl (.tmp 35) (.tmp 37) 33 25 (.slice none 0 0) 24 rfl Try.underlying33 info25 rfl (by decide) (by omega) u5 x5_1 y358 [.slice Ao14 y358.length co14] (fun k_=>(P1_ k_ ∨ w.heap.size≤k_)∧k_≠gb350) (fun k_=>((fun k_=>(P1_ k_ ∨ w.heap.size≤k_)∧k_≠gb350)) k_∧some k_≠(u5 : Value).ownBlock) rfl rfl ?aP (fun _ hk=>hk) ?aF ?aO ?aB ?aS ?aL ?_;(case aP=>exact (Kd.FK_slice_mk (Kd.N_reads' (Kd.N_mono (ok':=(fun k_=>((fun k_=>(P1_ k_ ∨ w.heap.size≤k_)∧k_≠gb350)) k_∧some k_≠(u5 : Value).ownBlock)) (HO360.out) (fun k_ hk=>⟨⟨hk.1,hk.2.2⟩,hk.2.1⟩))).2.1 (Kd.N_F (Kd.N_mono (ok':=(fun k_=>((fun k_=>(P1_ k_ ∨ w.heap.size≤k_)∧k_≠gb350)) k_∧some k_≠(u5 : Value).ownBlock)) (HO360.out) (fun k_ hk=>⟨⟨hk.1,hk.2.2⟩,hk.2.1⟩)))));(case aB=>exact (by repeat (first|(with_reducible first|exact HB.out|apply below_alloc|apply pw_below_drewN|apply below_drew1|refine below_set ?_ GE350.out)|exact HB.out)));(case aF=>exact (fun k_ hk=>⟨(.inr (Nat.le_trans (below_size (by repeat (first|(with_reducible first|exact HB.out|apply below_alloc|apply pw_below_drewN|apply below_drew1|refine below_set ?_ GE350.out)|exact HB.out))) hk)),Kd.freshB (g:=gb350) (o:=.cells #[.slice A0_0 l0_0.length c0_0,.int .i64 a0_1,.int .i64 a0_2,.int .i64 a0_3] 29 (0,0)) (blk_up BK350.out) k_ hk⟩));(case aO=>exact (by (with_reducible repeat (first|apply Kd.N_alloc|apply Kd.N_drewN|apply Kd.N_drew));exact Kd.N_mono HO_5.out (fun _ hk=>⟨hk.1.1,hk.1.2⟩)));(case aS=>exact (below_size (by repeat (first|(with_reducible first|exact HB.out|apply below_alloc|apply pw_below_drewN|apply below_drew1|refine below_set ?_ GE350.out)|exact HB.out))));(case aL=>have:=LMc12.out;omega);intro v362 w16 ho hb hg hat;rw [← Ny361.out] at ho;have n0_:=Aside0.mk (Kd.V_afterv (ok:=(fun k_=>(P1_ k_ ∨ w.heap.size≤k_)∧some k_≠(.slice Ao14 y358.length co14 : Value).ownBlock∧k_≠gb350)) (by (with_reducible repeat (first|apply Kd.V_alloc|apply Kd.V_drewN|apply Kd.V_drew));exact Kd.V_mono HO_1.out (fun _ hk=>⟨⟨hk.1.1,⟨hk.2,hk.1.2.2⟩⟩,hk.1.2.1⟩)) hg hat);have n1_:=Aside0.mk (blk_grown (g:=gb350) (o:=.cells #[.slice A0_0 l0_0.length c0_0,.int .i64 a0_1,.int .i64 a0_2,.int .i64 a0_3] 29 (0,0)) (blk_up BK350.out) hg (Kd.N_ne HO_5.out BK350.out (by decide)));have n2_:=Aside0.mk (Kd.V_afterv (ok:=(fun k_=>(P1_ k_ ∨ w.heap.size≤k_)∧some k_≠(.slice Ao14 y358.length co14 : Value).ownBlock∧k_≠gb350)) (by (with_reducible repeat (first|apply Kd.V_alloc|apply Kd.V_drewN|apply Kd.V_drew));exact Kd.V_mono HL357_0.out (fun _ hk=>⟨⟨hk.1.1,⟨hk.2,hk.1.2.2⟩⟩,hk.1.2.1⟩)) hg hat);have n3_:=Aside0.mk (hb);have n4_:=Aside0.mk (ho);clear HO_1;clear BK350;clear HL357_0;clear HB;clear HO_5;clear HO360;have HO_1:=n0_;have BK350:=n1_;have HL357_0:=n2_;have HB:=n3_;have HO363:=n4_;clear n0_ n1_ n2_ n3_ n4_;clear ho hb hg hat)|((with_reducible refine gate_dst (N:=39) rfl ?_);(try (refine gate_guard (by rfl) ?_;dsimp only));refine Kd.N_lit (Kd.slice 45 k45) _ 38 ?hg (N':=39) ?hd (xs:=([] : List (List (S45)))) (inner:=[]) (ok:=(fun k_=>(P1_ k_ ∨ w.heap.size≤k_)∧some k_≠(v362 : Value).ownBlock∧k_≠gb350)) (okp:=(fun k_=>(P1_ k_ ∨ w.heap.size≤k_)∧some k_≠(v362 : Value).ownBlock∧k_≠gb350)) ?hr ?hp (fun _ hk=>hk) ((show ∀ k_,w16.heap.size≤k_→(fun k_=>(P1_ k_ ∨ w.heap.size≤k_)∧some k_≠(v362 : Value).ownBlock∧k_≠gb350) k_ from fun k_ hk=>⟨(.inr (Nat.le_trans (below_size (by repeat (first|(with_reducible first|exact HB.out|apply below_alloc|apply pw_below_drewN|apply below_drew1|refine below_set ?_ GE350.out)|exact HB.out))) hk)),Kd.fresh' (Kd.N_lt (N_up HO363.out)) k_ hk,Kd.freshB (g:=gb350) (o:=.cells #[.slice A0_0 l0_0.length c0_0,.int .i64 a0_1,.int .i64 a0_2,.int .i64 a0_3] 29 (0,0)) (blk_up BK350.out) k_ hk⟩) _ (Nat.le_refl _)) (Below.refl _ _) (Nat.le_refl _) (by simp) ?_;(case hd=>rfl);(case hg=>rfl);(case hr=>first|(go_simp;done)|(go_simp;rfl));(case hp=>exact (Reps.none _ _));intro v365 w17 ho18 hb hg_ hnew_;clear hg_ hnew_;(first|rw [← Ny364.out] at ho18|(simp only [Int.reduceToNat] at ho18;rw [← Ny364.out] at ho18));have n0_:=Aside0.mk (Kd.V_elder' (V_up HO_1.out) (Kd.N_base ho18) hb);have n1_:=Aside0.mk (Kd.V_elder' (by (with_reducible repeat (first|apply Kd.V_alloc|apply Kd.V_drewN|apply Kd.V_drew));exact HL357_0.out) (Kd.N_base ho18) hb);have n2_:=Aside0.mk (Kd.N_elder' (N_up HO363.out) (Kd.N_base ho18) hb);have n3_:=Aside0.mk (Kd.N_lower ho18 (below_size (by repeat (first|(with_reducible first|exact HB.out|apply below_alloc|apply pw_below_drewN|apply below_drew1|refine below_set ?_ GE350.out)|exact HB.out))));have n4_:=Aside0.mk (blk_below (g:=gb350) (o:=.cells #[.slice A0_0 l0_0.length c0_0,.int .i64 a0_1,.int .i64 a0_2,.int .i64 a0_3] 29 (0,0)) (blk_up BK350.out) hb);have n5_:=Aside0.mk (below_step (by repeat (first|(with_reducible first|exact HB.out|apply below_alloc|apply pw_below_drewN|apply below_drew1|refine below_set ?_ GE350.out)|exact HB.out)) hb);clear HO_1;clear HL357_0;clear HO363;clear BK350;clear HB;have HO_1:=n0_;have HL357_0:=n1_;have HO363:=n2_;have HO366:=n3_;have BK350:=n4_;have HB:=n5_;clear n0_ n1_ n2_ n3_ n4_ n5_;clear hb ho18))
        go_roundg k1
        case measure=>have:=HK1.out;omega
        case rel=>exact ⟨(y361),(y364),(wrap64 (x7_1 + 1)),(by first|rfl|(simp;done)|(simp [*];done)),(by first|exact H'|(subst_vars;exact H')),⟨by have:=HK1.out;omega⟩,⟨by (with_reducible repeat (first|apply Kd.V_alloc|apply Kd.V_drewN|apply Kd.V_drew));exact Kd.V_mono HO_1.out (fun _ hk=>⟨hk.1.1.1,⟨hk.1.2,⟨hk.2,hk.1.1.2.2⟩⟩⟩)⟩,⟨by (with_reducible repeat (first|apply Kd.N_alloc|apply Kd.N_drewN|apply Kd.N_drew));exact Kd.N_mono HO363.out (fun _ hk=>⟨hk.1.1,⟨hk.2,hk.1.2⟩⟩)⟩,⟨by (with_reducible repeat (first|apply Kd.N_alloc|apply Kd.N_drewN|apply Kd.N_drew));exact HO366.out⟩,⟨by (with_reducible repeat (first|refine blk_drewN ?_ _|refine blk_drew ?_|refine blk_alloc ?_ _));exact BK350.out⟩,⟨by repeat (first|(with_reducible first|exact HB.out|apply below_alloc|apply pw_below_drewN|apply below_drew1|refine below_set ?_ GE350.out)|exact HB.out)⟩⟩
       ·rw [if_neg c12] at H
        exact absurd H (by simp)
      ·rw [if_neg c11] at H
       have c11b0 : ((y358.length : Int) == a0_3)=false:=beq_eq_false_iff_ne.mpr c11
       have c11b1 : ((y358.length : Int) != a0_3)=true:=bne_iff_ne.mpr c11
       by_cases c19 : x7_1=(wrap64 ((l1.length : Int) - 1))
       ·rw [if_pos c19] at H
        have c19b0 : (x7_1 == (wrap64 ((l1.length : Int) - 1)))=true:=beq_iff_eq.mpr c19
        have c19b1 : (x7_1 != (wrap64 ((l1.length : Int) - 1)))=false:=bne_eq_false_iff_eq.mpr c19
        clear c19
        by_cases c20 : x5_1.length < 5864062014805
        ·rw [if_pos c20] at H
         have LMc20:=Aside0.mk c20
         clear c20
         obtain ⟨y367,hy367⟩ : ∃ y_ : List (List (List (S45))),y_=(x5_1 ++ [y358]):=⟨_,rfl⟩
         replace H : (thresherref10_Split.l0 k1 l1 y367 (([] : List (List (S45)))) (wrap64 (x7_1 + 1)) l0_0 a0_1 a0_2 a0_3)=some r:=by first|(rw [hy367];with_reducible exact H)|(have H2_:=(Option.bind_some _ _).symm.trans H;rw [hy367];with_reducible exact H2_)|(have H2_:=(Option.bind_some _ _).symm.trans H;with_reducible exact H2_)|with_reducible exact H|(rw [hy367];exact H)|exact H
         have Ny367:=Aside0.mk hy367
         clear hy367
         obtain ⟨y370,hy370⟩ : ∃ y_ : List (List (S45)),y_=(([] : List (List (S45)))):=⟨_,rfl⟩
         replace H : (thresherref10_Split.l0 k1 l1 y367 y370 (wrap64 (x7_1 + 1)) l0_0 a0_1 a0_2 a0_3)=some r:=by first|(rw [hy370];with_reducible exact H)|(have H2_:=(Option.bind_some _ _).symm.trans H;rw [hy370];with_reducible exact H2_)|(have H2_:=(Option.bind_some _ _).symm.trans H;with_reducible exact H2_)|with_reducible exact H|(rw [hy370];exact H)|exact H
         have Ny370:=Aside0.mk hy370
         clear hy370
         have H':=Aside0.mk H
         clear H
         have p357 : 0≤(x7_1 : Int):=of_decide_eq_true (by first|(with_reducible assumption)|assumption)
         have q357 : x7_1 < (l1.length : Int):=of_decide_eq_true (by first|(with_reducible assumption)|assumption)
         obtain ⟨ad357,A357_0,c357_0,e357,hx357_0,hl357_0,hi357_0⟩:=at_L3 (Kd.V_reads' HO_1.out).2.2 x7_1 p357 q357
         cases e357
         obtain ⟨ce357,hce357,hMe357,hcc357⟩:=Kd.V_get HO_1.out [] x7_1 p357 (by first|exact q357|exact of_decide_eq_true (by first|(with_reducible assumption)|assumption)|(have e_:=(Kd.V_reads' HO_1.out).1;omega))
         obtain ⟨ua357_0,uc357_0,rfl,ul357_0,ge357_0⟩:=Kd.FK_slice_open hMe357
         have hv357_0:=hcc357 0 _ rfl
         rw [Nat.add_zero,show ((Kd.slice 45 k45)).sz=1 from rfl,Nat.mul_one] at hv357_0
         replace hv357_0:=Option.some.inj (hv357_0.symm.trans hx357_0)
         injection hv357_0 with hva_ hvn_ hvc_
         rw [hva_] at ge357_0
         rw [hvc_] at ul357_0
         have HL357_0:=Aside0.mk (show Kd.V k45 45 _ w.heap.size _ _ (rd_L3 l1 x7_1) from Kd.V_mk ul357_0 ge357_0)
         clear hva_ hvn_ hvc_ ge357_0 ul357_0
         clear hcc357 hce357
         have HR357_0:=Aside0.mk hi357_0
         have HC357_0:=Aside0.mk hl357_0
         clear hi357_0 hl357_0
         replace p357:=eq_true p357
         replace q357:=eq_true q357
         go_wp2_with (first|((with_reducible refine gate_builtin (b:=.append) (xs:=#[.tmp 16,.tmp 21]) rfl ?_);(try (refine gate_guard (by rfl) ?_;dsimp only));at_builtin;refine Kd.N_append (Kd.slice 45 k45) (w0:=w) w.heap.size rfl (.tmp 16) (.tmp 21) 25 38 (.slice none 0 0) 24 rfl Try.underlying25 info38 rfl (by decide) (by omega) u6 x6_1 (rd_L3 l1 x7_1) [.slice A357_0 (rd_L3 l1 x7_1).length c357_0] (fun k_=>(P1_ k_ ∨ w.heap.size≤k_)∧some k_≠(u5 : Value).ownBlock∧k_≠gb350) (fun k_=>((fun k_=>(P1_ k_ ∨ w.heap.size≤k_)∧some k_≠(u5 : Value).ownBlock∧k_≠gb350)) k_∧some k_≠(u6 : Value).ownBlock) rfl rfl ?aP (fun _ hk=>hk) ?aF ?aO ?aB ?aS ?aL ?_;(case aP=>exact (Kd.FK_slice_mk (Kd.V_reads' (Kd.V_mono (ok':=(fun k_=>((fun k_=>(P1_ k_ ∨ w.heap.size≤k_)∧some k_≠(u5 : Value).ownBlock∧k_≠gb350)) k_∧some k_≠(u6 : Value).ownBlock)) (HL357_0.out) (fun k_ hk=>⟨⟨hk.1,⟨hk.2.1,hk.2.2.2⟩⟩,hk.2.2.1⟩))).2.1 (Kd.V_F (Kd.V_mono (ok':=(fun k_=>((fun k_=>(P1_ k_ ∨ w.heap.size≤k_)∧some k_≠(u5 : Value).ownBlock∧k_≠gb350)) k_∧some k_≠(u6 : Value).ownBlock)) (HL357_0.out) (fun k_ hk=>⟨⟨hk.1,⟨hk.2.1,hk.2.2.2⟩⟩,hk.2.2.1⟩)))));(case aB=>exact (by repeat (first|(with_reducible first|exact HB.out|apply below_alloc|apply pw_below_drewN|apply below_drew1|refine below_set ?_ GE350.out)|exact HB.out)));(case aF=>exact (fun k_ hk=>⟨(.inr (Nat.le_trans (below_size (by repeat (first|(with_reducible first|exact HB.out|apply below_alloc|apply pw_below_drewN|apply below_drew1|refine below_set ?_ GE350.out)|exact HB.out))) hk)),Kd.fresh' (Kd.N_lt (N_up HO_5.out)) k_ hk,Kd.freshB (g:=gb350) (o:=.cells #[.slice A0_0 l0_0.length c0_0,.int .i64 a0_1,.int .i64 a0_2,.int .i64 a0_3] 29 (0,0)) (blk_up BK350.out) k_ hk⟩));(case aO=>exact (N_up HO_6.out));(case aS=>exact (below_size (by repeat (first|(with_reducible first|exact HB.out|apply below_alloc|apply pw_below_drewN|apply below_drew1|refine below_set ?_ GE350.out)|exact HB.out))));(case aL=>have:=LMc10.out;omega);intro v359 w21 ho hb hg hat;rw [← Ny358.out] at ho;have n0_:=Aside0.mk (Kd.V_afterv (ok:=(fun k_=>(P1_ k_ ∨ w.heap.size≤k_)∧some k_≠(u5 : Value).ownBlock∧k_≠gb350)) (by (with_reducible repeat (first|apply Kd.V_alloc|apply Kd.V_drewN|apply Kd.V_drew));exact Kd.V_mono HO_1.out (fun _ hk=>⟨⟨hk.1,⟨hk.2.1,hk.2.2.2⟩⟩,hk.2.2.1⟩)) hg hat);have n1_:=Aside0.mk (Kd.N_afterv (ok:=(fun k_=>(P1_ k_ ∨ w.heap.size≤k_)∧k_≠gb350)) (by (with_reducible repeat (first|apply Kd.N_alloc|apply Kd.N_drewN|apply Kd.N_drew));exact Kd.N_mono HO_5.out (fun _ hk=>⟨⟨hk.1,hk.2.2⟩,hk.2.1⟩)) hg hat);have n2_:=Aside0.mk (blk_grown (g:=gb350) (o:=.cells #[.slice A0_0 l0_0.length c0_0,.int .i64 a0_1,.int .i64 a0_2,.int .i64 a0_3] 29 (0,0)) (blk_up BK350.out) hg (Kd.N_ne HO_6.out BK350.out (by decide)));have n3_:=Aside0.mk (Kd.V_afterv (ok:=(fun k_=>(P1_ k_ ∨ w.heap.size≤k_)∧some k_≠(u5 : Value).ownBlock∧k_≠gb350)) (by (with_reducible repeat (first|apply Kd.V_alloc|apply Kd.V_drewN|apply Kd.V_drew));exact Kd.V_mono HL357_0.out (fun _ hk=>⟨⟨hk.1,⟨hk.2.1,hk.2.2.2⟩⟩,hk.2.2.1⟩)) hg hat);have n4_:=Aside0.mk (hb);have n5_:=Aside0.mk (ho);clear HO_1;clear HO_5;clear BK350;clear HL357_0;clear HB;clear HO_6;have HO_1:=n0_;have HO_5:=n1_;have BK350:=n2_;have HL357_0:=n3_;have HB:=n4_;have HO360:=n5_;clear n0_ n1_ n2_ n3_ n4_ n5_;clear ho hb hg hat;obtain ⟨Ao22,co22,eo22⟩:=Kd.N_slice HO360.out;subst eo22;have hcz23_0 : w21.cell? ⟨gb350,0,none⟩=some (.slice A0_0 l0_0.length c0_0):=(blk_cell BK350.out 0).trans rfl;have hcz23_1 : w21.cell? ⟨gb350,1,none⟩=some (.int .i64 a0_1):=(blk_cell BK350.out 1).trans rfl;have hcz23_2 : w21.cell? ⟨gb350,2,none⟩=some (.int .i64 a0_2):=(blk_cell BK350.out 2).trans rfl;have hcz23_3 : w21.cell? ⟨gb350,3,none⟩=some (.int .i64 a0_3):=(blk_cell BK350.out 3).trans rfl;have hfz23_0:=blk_frozen BK350.out 0;have hfz23_1:=blk_frozen BK350.out 1;have hfz23_2:=blk_frozen BK350.out 2;have hfz23_3:=blk_frozen BK350.out 3)|((with_reducible refine gate_builtin (b:=.append) (xs:=#[.tmp 35,.tmp 37]) rfl ?_);(try (refine gate_guard (by rfl) ?_;dsimp only));at_builtin;refine Kd.N_append (Kd.slice 38 (Kd.slice 45 k45)) (w0:=w) w.heap.size rfl (.tmp 35) (.tmp 37) 33 25 (.slice none 0 0) 24 rfl Try.underlying33 info25 rfl (by decide) (by omega) u5 x5_1 y358 [.slice Ao22 y358.length co22] (fun k_=>(P1_ k_ ∨ w.heap.size≤k_)∧k_≠gb350) (fun k_=>((fun k_=>(P1_ k_ ∨ w.heap.size≤k_)∧k_≠gb350)) k_∧some k_≠(u5 : Value).ownBlock) rfl rfl ?aP (fun _ hk=>hk) ?aF ?aO ?aB ?aS ?aL ?_;(case aP=>exact (Kd.FK_slice_mk (Kd.N_reads' (Kd.N_mono (ok':=(fun k_=>((fun k_=>(P1_ k_ ∨ w.heap.size≤k_)∧k_≠gb350)) k_∧some k_≠(u5 : Value).ownBlock)) (HO360.out) (fun k_ hk=>⟨⟨hk.1,hk.2.2⟩,hk.2.1⟩))).2.1 (Kd.N_F (Kd.N_mono (ok':=(fun k_=>((fun k_=>(P1_ k_ ∨ w.heap.size≤k_)∧k_≠gb350)) k_∧some k_≠(u5 : Value).ownBlock)) (HO360.out) (fun k_ hk=>⟨⟨hk.1,hk.2.2⟩,hk.2.1⟩)))));(case aB=>exact (by repeat (first|(with_reducible first|exact HB.out|apply below_alloc|apply pw_below_drewN|apply below_drew1|refine below_set ?_ GE350.out)|exact HB.out)));(case aF=>exact (fun k_ hk=>⟨(.inr (Nat.le_trans (below_size (by repeat (first|(with_reducible first|exact HB.out|apply below_alloc|apply pw_below_drewN|apply below_drew1|refine below_set ?_ GE350.out)|exact HB.out))) hk)),Kd.freshB (g:=gb350) (o:=.cells #[.slice A0_0 l0_0.length c0_0,.int .i64 a0_1,.int .i64 a0_2,.int .i64 a0_3] 29 (0,0)) (blk_up BK350.out) k_ hk⟩));(case aO=>exact (by (with_reducible repeat (first|apply Kd.N_alloc|apply Kd.N_drewN|apply Kd.N_drew));exact Kd.N_mono HO_5.out (fun _ hk=>⟨hk.1.1,hk.1.2⟩)));(case aS=>exact (below_size (by repeat (first|(with_reducible first|exact HB.out|apply below_alloc|apply pw_below_drewN|apply below_drew1|refine below_set ?_ GE350.out)|exact HB.out))));(case aL=>have:=LMc20.out;omega);intro v368 w24 ho hb hg hat;rw [← Ny367.out] at ho;have n0_:=Aside0.mk (Kd.V_afterv (ok:=(fun k_=>(P1_ k_ ∨ w.heap.size≤k_)∧some k_≠(.slice Ao22 y358.length co22 : Value).ownBlock∧k_≠gb350)) (by (with_reducible repeat (first|apply Kd.V_alloc|apply Kd.V_drewN|apply Kd.V_drew));exact Kd.V_mono HO_1.out (fun _ hk=>⟨⟨hk.1.1,⟨hk.2,hk.1.2.2⟩⟩,hk.1.2.1⟩)) hg hat);have n1_:=Aside0.mk (blk_grown (g:=gb350) (o:=.cells #[.slice A0_0 l0_0.length c0_0,.int .i64 a0_1,.int .i64 a0_2,.int .i64 a0_3] 29 (0,0)) (blk_up BK350.out) hg (Kd.N_ne HO_5.out BK350.out (by decide)));have n2_:=Aside0.mk (Kd.V_afterv (ok:=(fun k_=>(P1_ k_ ∨ w.heap.size≤k_)∧some k_≠(.slice Ao22 y358.length co22 : Value).ownBlock∧k_≠gb350)) (by (with_reducible repeat (first|apply Kd.V_alloc|apply Kd.V_drewN|apply Kd.V_drew));exact Kd.V_mono HL357_0.out (fun _ hk=>⟨⟨hk.1.1,⟨hk.2,hk.1.2.2⟩⟩,hk.1.2.1⟩)) hg hat);have n3_:=Aside0.mk (hb);have n4_:=Aside0.mk (ho);clear HO_1;clear BK350;clear HL357_0;clear HB;clear HO_5;clear HO360;have HO_1:=n0_;have BK350:=n1_;have HL357_0:=n2_;have HB:=n3_;have HO369:=n4_;clear n0_ n1_ n2_ n3_ n4_;clear ho hb hg hat)|((with_reducible refine gate_dst (N:=39) rfl ?_);(try (refine gate_guard (by rfl) ?_;dsimp only));refine Kd.N_lit (Kd.slice 45 k45) _ 38 ?hg (N':=39) ?hd (xs:=([] : List (List (S45)))) (inner:=[]) (ok:=(fun k_=>(P1_ k_ ∨ w.heap.size≤k_)∧some k_≠(v368 : Value).ownBlock∧k_≠gb350)) (okp:=(fun k_=>(P1_ k_ ∨ w.heap.size≤k_)∧some k_≠(v368 : Value).ownBlock∧k_≠gb350)) ?hr ?hp (fun _ hk=>hk) ((show ∀ k_,w24.heap.size≤k_→(fun k_=>(P1_ k_ ∨ w.heap.size≤k_)∧some k_≠(v368 : Value).ownBlock∧k_≠gb350) k_ from fun k_ hk=>⟨(.inr (Nat.le_trans (below_size (by repeat (first|(with_reducible first|exact HB.out|apply below_alloc|apply pw_below_drewN|apply below_drew1|refine below_set ?_ GE350.out)|exact HB.out))) hk)),Kd.fresh' (Kd.N_lt (N_up HO369.out)) k_ hk,Kd.freshB (g:=gb350) (o:=.cells #[.slice A0_0 l0_0.length c0_0,.int .i64 a0_1,.int .i64 a0_2,.int .i64 a0_3] 29 (0,0)) (blk_up BK350.out) k_ hk⟩) _ (Nat.le_refl _)) (Below.refl _ _) (Nat.le_refl _) (by simp) ?_;(case hd=>rfl);(case hg=>rfl);(case hr=>first|(go_simp;done)|(go_simp;rfl));(case hp=>exact (Reps.none _ _));intro v371 w25 ho26 hb hg_ hnew_;clear hg_ hnew_;(first|rw [← Ny370.out] at ho26|(simp only [Int.reduceToNat] at ho26;rw [← Ny370.out] at ho26));have n0_:=Aside0.mk (Kd.V_elder' (V_up HO_1.out) (Kd.N_base ho26) hb);have n1_:=Aside0.mk (Kd.V_elder' (by (with_reducible repeat (first|apply Kd.V_alloc|apply Kd.V_drewN|apply Kd.V_drew));exact HL357_0.out) (Kd.N_base ho26) hb);have n2_:=Aside0.mk (Kd.N_elder' (N_up HO369.out) (Kd.N_base ho26) hb);have n3_:=Aside0.mk (Kd.N_lower ho26 (below_size (by repeat (first|(with_reducible first|exact HB.out|apply below_alloc|apply pw_below_drewN|apply below_drew1|refine below_set ?_ GE350.out)|exact HB.out))));have n4_:=Aside0.mk (blk_below (g:=gb350) (o:=.cells #[.slice A0_0 l0_0.length c0_0,.int .i64 a0_1,.int .i64 a0_2,.int .i64 a0_3] 29 (0,0)) (blk_up BK350.out) hb);have n5_:=Aside0.mk (below_step (by repeat (first|(with_reducible first|exact HB.out|apply below_alloc|apply pw_below_drewN|apply below_drew1|refine below_set ?_ GE350.out)|exact HB.out)) hb);clear HO_1;clear HL357_0;clear HO369;clear BK350;clear HB;have HO_1:=n0_;have HL357_0:=n1_;have HO369:=n2_;have HO372:=n3_;have BK350:=n4_;have HB:=n5_;clear n0_ n1_ n2_ n3_ n4_ n5_;clear hb ho26))
         go_roundg k1
         case measure=>have:=HK1.out;omega
         case rel=>exact ⟨(y367),(y370),(wrap64 (x7_1 + 1)),(by first|rfl|(simp;done)|(simp [*];done)),(by first|exact H'|(subst_vars;exact H')),⟨by have:=HK1.out;omega⟩,⟨by (with_reducible repeat (first|apply Kd.V_alloc|apply Kd.V_drewN|apply Kd.V_drew));exact Kd.V_mono HO_1.out (fun _ hk=>⟨hk.1.1.1,⟨hk.1.2,⟨hk.2,hk.1.1.2.2⟩⟩⟩)⟩,⟨by (with_reducible repeat (first|apply Kd.N_alloc|apply Kd.N_drewN|apply Kd.N_drew));exact Kd.N_mono HO369.out (fun _ hk=>⟨hk.1.1,⟨hk.2,hk.1.2⟩⟩)⟩,⟨by (with_reducible repeat (first|apply Kd.N_alloc|apply Kd.N_drewN|apply Kd.N_drew));exact HO372.out⟩,⟨by (with_reducible repeat (first|refine blk_drewN ?_ _|refine blk_drew ?_|refine blk_alloc ?_ _));exact BK350.out⟩,⟨by repeat (first|(with_reducible first|exact HB.out|apply below_alloc|apply pw_below_drewN|apply below_drew1|refine below_set ?_ GE350.out)|exact HB.out)⟩⟩
        ·rw [if_neg c20] at H
         exact absurd H (by simp)
       ·rw [if_neg c19] at H
        have c19b0 : (x7_1 == (wrap64 ((l1.length : Int) - 1)))=false:=beq_eq_false_iff_ne.mpr c19
        have c19b1 : (x7_1 != (wrap64 ((l1.length : Int) - 1)))=true:=bne_iff_ne.mpr c19
        have H':=Aside0.mk H
        clear H
        have p357 : 0≤(x7_1 : Int):=of_decide_eq_true (by first|(with_reducible assumption)|assumption)
        have q357 : x7_1 < (l1.length : Int):=of_decide_eq_true (by first|(with_reducible assumption)|assumption)
        obtain ⟨ad357,A357_0,c357_0,e357,hx357_0,hl357_0,hi357_0⟩:=at_L3 (Kd.V_reads' HO_1.out).2.2 x7_1 p357 q357
        cases e357
        obtain ⟨ce357,hce357,hMe357,hcc357⟩:=Kd.V_get HO_1.out [] x7_1 p357 (by first|exact q357|exact of_decide_eq_true (by first|(with_reducible assumption)|assumption)|(have e_:=(Kd.V_reads' HO_1.out).1;omega))
        obtain ⟨ua357_0,uc357_0,rfl,ul357_0,ge357_0⟩:=Kd.FK_slice_open hMe357
        have hv357_0:=hcc357 0 _ rfl
        rw [Nat.add_zero,show ((Kd.slice 45 k45)).sz=1 from rfl,Nat.mul_one] at hv357_0
        replace hv357_0:=Option.some.inj (hv357_0.symm.trans hx357_0)
        injection hv357_0 with hva_ hvn_ hvc_
        rw [hva_] at ge357_0
        rw [hvc_] at ul357_0
        have HL357_0:=Aside0.mk (show Kd.V k45 45 _ w.heap.size _ _ (rd_L3 l1 x7_1) from Kd.V_mk ul357_0 ge357_0)
        clear hva_ hvn_ hvc_ ge357_0 ul357_0
        clear hcc357 hce357
        have HR357_0:=Aside0.mk hi357_0
        have HC357_0:=Aside0.mk hl357_0
        clear hi357_0 hl357_0
        replace p357:=eq_true p357
        replace q357:=eq_true q357
        go_wp2_with (first|((with_reducible refine gate_builtin (b:=.append) (xs:=#[.tmp 16,.tmp 21]) rfl ?_);(try (refine gate_guard (by rfl) ?_;dsimp only));at_builtin;refine Kd.N_append (Kd.slice 45 k45) (w0:=w) w.heap.size rfl (.tmp 16) (.tmp 21) 25 38 (.slice none 0 0) 24 rfl Try.underlying25 info38 rfl (by decide) (by omega) u6 x6_1 (rd_L3 l1 x7_1) [.slice A357_0 (rd_L3 l1 x7_1).length c357_0] (fun k_=>(P1_ k_ ∨ w.heap.size≤k_)∧some k_≠(u5 : Value).ownBlock∧k_≠gb350) (fun k_=>((fun k_=>(P1_ k_ ∨ w.heap.size≤k_)∧some k_≠(u5 : Value).ownBlock∧k_≠gb350)) k_∧some k_≠(u6 : Value).ownBlock) rfl rfl ?aP (fun _ hk=>hk) ?aF ?aO ?aB ?aS ?aL ?_;(case aP=>exact (Kd.FK_slice_mk (Kd.V_reads' (Kd.V_mono (ok':=(fun k_=>((fun k_=>(P1_ k_ ∨ w.heap.size≤k_)∧some k_≠(u5 : Value).ownBlock∧k_≠gb350)) k_∧some k_≠(u6 : Value).ownBlock)) (HL357_0.out) (fun k_ hk=>⟨⟨hk.1,⟨hk.2.1,hk.2.2.2⟩⟩,hk.2.2.1⟩))).2.1 (Kd.V_F (Kd.V_mono (ok':=(fun k_=>((fun k_=>(P1_ k_ ∨ w.heap.size≤k_)∧some k_≠(u5 : Value).ownBlock∧k_≠gb350)) k_∧some k_≠(u6 : Value).ownBlock)) (HL357_0.out) (fun k_ hk=>⟨⟨hk.1,⟨hk.2.1,hk.2.2.2⟩⟩,hk.2.2.1⟩)))));(case aB=>exact (by repeat (first|(with_reducible first|exact HB.out|apply below_alloc|apply pw_below_drewN|apply below_drew1|refine below_set ?_ GE350.out)|exact HB.out)));(case aF=>exact (fun k_ hk=>⟨(.inr (Nat.le_trans (below_size (by repeat (first|(with_reducible first|exact HB.out|apply below_alloc|apply pw_below_drewN|apply below_drew1|refine below_set ?_ GE350.out)|exact HB.out))) hk)),Kd.fresh' (Kd.N_lt (N_up HO_5.out)) k_ hk,Kd.freshB (g:=gb350) (o:=.cells #[.slice A0_0 l0_0.length c0_0,.int .i64 a0_1,.int .i64 a0_2,.int .i64 a0_3] 29 (0,0)) (blk_up BK350.out) k_ hk⟩));(case aO=>exact (N_up HO_6.out));(case aS=>exact (below_size (by repeat (first|(with_reducible first|exact HB.out|apply below_alloc|apply pw_below_drewN|apply below_drew1|refine below_set ?_ GE350.out)|exact HB.out))));(case aL=>have:=LMc10.out;omega);intro v359 w27 ho hb hg hat;rw [← Ny358.out] at ho;have n0_:=Aside0.mk (Kd.V_afterv (ok:=(fun k_=>(P1_ k_ ∨ w.heap.size≤k_)∧some k_≠(u5 : Value).ownBlock∧k_≠gb350)) (by (with_reducible repeat (first|apply Kd.V_alloc|apply Kd.V_drewN|apply Kd.V_drew));exact Kd.V_mono HO_1.out (fun _ hk=>⟨⟨hk.1,⟨hk.2.1,hk.2.2.2⟩⟩,hk.2.2.1⟩)) hg hat);have n1_:=Aside0.mk (Kd.N_afterv (ok:=(fun k_=>(P1_ k_ ∨ w.heap.size≤k_)∧k_≠gb350)) (by (with_reducible repeat (first|apply Kd.N_alloc|apply Kd.N_drewN|apply Kd.N_drew));exact Kd.N_mono HO_5.out (fun _ hk=>⟨⟨hk.1,hk.2.2⟩,hk.2.1⟩)) hg hat);have n2_:=Aside0.mk (blk_grown (g:=gb350) (o:=.cells #[.slice A0_0 l0_0.length c0_0,.int .i64 a0_1,.int .i64 a0_2,.int .i64 a0_3] 29 (0,0)) (blk_up BK350.out) hg (Kd.N_ne HO_6.out BK350.out (by decide)));have n3_:=Aside0.mk (Kd.V_afterv (ok:=(fun k_=>(P1_ k_ ∨ w.heap.size≤k_)∧some k_≠(u5 : Value).ownBlock∧k_≠gb350)) (by (with_reducible repeat (first|apply Kd.V_alloc|apply Kd.V_drewN|apply Kd.V_drew));exact Kd.V_mono HL357_0.out (fun _ hk=>⟨⟨hk.1,⟨hk.2.1,hk.2.2.2⟩⟩,hk.2.2.1⟩)) hg hat);have n4_:=Aside0.mk (hb);have n5_:=Aside0.mk (ho);clear HO_1;clear HO_5;clear BK350;clear HL357_0;clear HB;clear HO_6;have HO_1:=n0_;have HO_5:=n1_;have BK350:=n2_;have HL357_0:=n3_;have HB:=n4_;have HO360:=n5_;clear n0_ n1_ n2_ n3_ n4_ n5_;clear ho hb hg hat;obtain ⟨Ao28,co28,eo28⟩:=Kd.N_slice HO360.out;subst eo28;have hcz29_0 : w27.cell? ⟨gb350,0,none⟩=some (.slice A0_0 l0_0.length c0_0):=(blk_cell BK350.out 0).trans rfl;have hcz29_1 : w27.cell? ⟨gb350,1,none⟩=some (.int .i64 a0_1):=(blk_cell BK350.out 1).trans rfl;have hcz29_2 : w27.cell? ⟨gb350,2,none⟩=some (.int .i64 a0_2):=(blk_cell BK350.out 2).trans rfl;have hcz29_3 : w27.cell? ⟨gb350,3,none⟩=some (.int .i64 a0_3):=(blk_cell BK350.out 3).trans rfl;have hfz29_0:=blk_frozen BK350.out 0;have hfz29_1:=blk_frozen BK350.out 1;have hfz29_2:=blk_frozen BK350.out 2;have hfz29_3:=blk_frozen BK350.out 3))
        go_roundg k1
        case measure=>have:=HK1.out;omega
        case rel=>exact ⟨(x5_1),(y358),(wrap64 (x7_1 + 1)),(by first|rfl|(simp;done)|(simp [*];done)),(by first|exact H'|(subst_vars;exact H')),⟨by have:=HK1.out;omega⟩,⟨by (with_reducible repeat (first|apply Kd.V_alloc|apply Kd.V_drewN|apply Kd.V_drew));exact Kd.V_mono HO_1.out (fun _ hk=>⟨hk.1.1,⟨hk.1.2.1,⟨hk.2,hk.1.2.2⟩⟩⟩)⟩,⟨by (with_reducible repeat (first|apply Kd.N_alloc|apply Kd.N_drewN|apply Kd.N_drew));exact Kd.N_mono HO_5.out (fun _ hk=>⟨hk.1.1,⟨hk.2,hk.1.2⟩⟩)⟩,⟨by (with_reducible repeat (first|apply Kd.N_alloc|apply Kd.N_drewN|apply Kd.N_drew));exact HO360.out⟩,⟨by (with_reducible repeat (first|refine blk_drewN ?_ _|refine blk_drew ?_|refine blk_alloc ?_ _));exact BK350.out⟩,⟨by repeat (first|(with_reducible first|exact HB.out|apply below_alloc|apply pw_below_drewN|apply below_drew1|refine below_set ?_ GE350.out)|exact HB.out)⟩⟩
     ·rw [if_neg c10] at H
      exact absurd H (by simp)
    ·rw [if_neg c9] at H
     exact absurd H (by simp)
   ·rw [if_neg c8] at H
    have c8b0 : decide (x7_1 < (l1.length : Int))=false:=decide_eq_false c8
    clear c8
    obtain rfl:=Option.some.inj H
    go_wp2
    go_ret
    exact ⟨_,by first|rfl|(simp [errW_none,errW_some] <;> rfl)|(simp [*,errW_none,errW_some] <;> rfl),by (with_reducible repeat (first|apply Kd.N_alloc|apply Kd.N_drewN|apply Kd.N_drew));exact Kd.N_mono HO_5.out (fun _ hk=>hk.1),by repeat (first|(with_reducible first|exact HB.out|apply below_alloc|apply pw_below_drewN|apply below_drew1|refine below_set ?_ GE350.out)|exact HB.out)⟩
end Go.Proofs.Ythoelihgpkffiaa.P

