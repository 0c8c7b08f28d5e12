/- Texts of SchemaAll. Merged: Px19. -/
import Derived.Test.YtkodpbellndelaaQSchemaAllPx0
import Derived.Test.YtkodpbellndelaaQSchemaAllPx18
namespace Go.Proofs.Ytkodpbellndelaa.P
open Go.RowKit Go.Proofs.YtkodpbellndelaaW.PrintWords Go.Proofs.YtkodpbellndelaaW.PrintLast Go.Proofs.YtkodpbellndelaaW.PrintMore
attribute [local go_sem] max2_int min2_int max_two min_two max_three min_three max_four min_four   -- for this text's walks alone
set_option linter.unusedVariables false
set_option linter.unusedSimpArgs false
mutual
def thresherref01_Var.l0 : Nat→List Int→Int→Int→Int→Option (Int × Int)
 | 0,_,_,_,_=>none
 | k + 1,x0,x4,x5,x6=>if x6 < (x0.length : Int) then (thresherref01_Var.j1 k x0 x4 x5 x6 (decide (x6 < 10))) else (thresherref01_Var.j1 k x0 x4 x5 x6 false)
def thresherref01_Var.j1 : Nat→List Int→Int→Int→Int→Bool→Option (Int × Int)
 | 0,_,_,_,_,_=>none
 | k + 1,x0,x4,x5,x6,x14=>if x14=true then (if 0≤x6 then (if x6 < (x0.length : Int) then (if (rd x0 x6) < 128 then ((thresherref01_PutVar.f k (IntKind.u64.wrap (x4 + (IntKind.u64.wrap ((IntKind.u64.wrap (Int.tmod (rd x0 x6) 128)) * x5))))).bind fun t476=>(if 0≤(wrap64 (x6 + 1)) then (if (wrap64 (x6 + 1))≤(x0.length : Int) then (if (strOfNums t476).toList=(strOfNums (x0.take ((wrap64 (x6 + 1)) : Int).toNat)).toList then (some (IntKind.u64.wrap (x4 + (IntKind.u64.wrap ((IntKind.u64.wrap (Int.tmod (rd x0 x6) 128)) * x5))),wrap64 (x6 + 1))) else (some (0,0))) else (none)) else (none))) else (thresherref01_Var.l0 k x0 (IntKind.u64.wrap (x4 + (IntKind.u64.wrap ((IntKind.u64.wrap (Int.tmod (rd x0 x6) 128)) * x5)))) (IntKind.u64.wrap (x5 * 128)) (wrap64 (x6 + 1)))) else (none)) else (none)) else (some (0,0))
end
def thresherref01_Var.f (k : Nat) (l0 : List Int) : Option (Int × Int):=thresherref01_Var.l0 k l0 0 1 0
theorem thresherref01_Var.mono_l : ∀ k,(∀ y0 y1 y2 y3,LeO (thresherref01_Var.l0 k y0 y1 y2 y3) (thresherref01_Var.l0 (k + 1) y0 y1 y2 y3))∧(∀ y0 y1 y2 y3 y4,LeO (thresherref01_Var.j1 k y0 y1 y2 y3 y4) (thresherref01_Var.j1 (k + 1) y0 y1 y2 y3 y4))
 | 0=>⟨fun _ _ _ _ r h=>by simp [thresherref01_Var.l0] at h,fun _ _ _ _ _ r h=>by simp [thresherref01_Var.j1] at h⟩
 | k + 1=>by
  obtain ⟨ih0,ih1⟩:=thresherref01_Var.mono_l k
  refine ⟨?_,?_⟩
  ·intro y0 y1 y2 y3
   unfold thresherref01_Var.l0
   repeat' first
   | (with_reducible exact ih0 _ _ _ _)
   | (with_reducible exact ih1 _ _ _ _ _)
   | (with_reducible exact thresherref01_PutVar.mono _ _)
   | (with_reducible exact LeO.refl _)
   | (with_reducible exact LeO.none _)
   | (with_reducible refine LeO.ite ?_ ?_)
   | (with_reducible refine LeO.bind ?_ (fun _=>?_))
   | exact ih0 _ _ _ _
   | exact ih1 _ _ _ _ _
   | exact thresherref01_PutVar.mono _ _
   | exact LeO.none _
   | refine LeO.ite ?_ ?_
   | refine LeO.bind ?_ (fun _=>?_)
  ·intro y0 y1 y2 y3 y4
   unfold thresherref01_Var.j1
   repeat' first
   | (with_reducible exact ih0 _ _ _ _)
   | (with_reducible exact ih1 _ _ _ _ _)
   | (with_reducible exact thresherref01_PutVar.mono _ _)
   | (with_reducible exact LeO.refl _)
   | (with_reducible exact LeO.none _)
   | (with_reducible refine LeO.ite ?_ ?_)
   | (with_reducible refine LeO.bind ?_ (fun _=>?_))
   | exact ih0 _ _ _ _
   | exact ih1 _ _ _ _ _
   | exact thresherref01_PutVar.mono _ _
   | exact LeO.none _
   | refine LeO.ite ?_ ?_
   | refine LeO.bind ?_ (fun _=>?_)
theorem thresherref01_Var.mono : ∀ a0 k,LeO (thresherref01_Var.f k a0) (thresherref01_Var.f (k + 1) a0):=by
 intro a0 k
 obtain ⟨ih0,ih1⟩:=thresherref01_Var.mono_l k
 unfold thresherref01_Var.f
 repeat' first
   | (with_reducible exact ih0 _ _ _ _)
   | (with_reducible exact ih1 _ _ _ _ _)
   | (with_reducible exact thresherref01_PutVar.mono _ _)
   | (with_reducible exact LeO.refl _)
   | (with_reducible exact LeO.none _)
   | (with_reducible refine LeO.ite ?_ ?_)
   | (with_reducible refine LeO.bind ?_ (fun _=>?_))
   | exact ih0 _ _ _ _
   | exact ih1 _ _ _ _ _
   | exact thresherref01_PutVar.mono _ _
   | exact LeO.none _
   | refine LeO.ite ?_ ?_
   | refine LeO.bind ?_ (fun _=>?_)
def thresherref01_Var.T9 : Bool × List (List Nat × List Nat):=(true,[([],[]),([0],[0]),([1],[1]),([],[]),([],[]),([4],[4]),([3,5],[3,5]),([6],[6]),([2,7],[2,7])])
def thresherref01_Var.B9 : List Nat:=[0,1,3,0,0,16,56,120,255]
theorem thresherref01_Var.tab9 : rtab .any (opsOf Try.f39 9)=thresherref01_Var.T9:=by kernel_rfl
theorem thresherref01_Var.bits9 : waitsOk thresherref01_Var.T9.2 thresherref01_Var.B9=true:=by kernel_rfl
set_option maxHeartbeats 8000000 in
set_option maxRecDepth 100000 in
theorem thresherref01_Var.calls (k : Nat) (A0 : Option Addr) (c0 : Nat) (l0 : List Int) (r1 : Int) (r2 : Int) (w : World) (hr0 : Kd.C (Kd.int .u8) w A0 l0.length l0) (hc0 : l0.length≤c0) (h : thresherref01_Var.f k l0=some (r1,r2)) :
  Calls Try.prog 39 #[.slice A0 l0.length c0] w fun e w'=>e=.returned (.tuple #[.int .u64 r1,.int .i64 r2])∧Below w.heap.size w w':=by
 have HR0:=Aside0.mk hr0
 have HC0:=Aside0.mk hc0
 clear hr0 hc0
 have HB:=Aside0.mk (Below.refl w.heap.size w)
 have H : (thresherref01_Var.l0 k l0 0 1 0)=some (r1,r2):=h
 clear h
 have H':=Aside0.mk H
 clear H
 go_enter Try.func39,Try.ntmps39
 go_wp2
 go_loopg [4,5,6] k (fun kq v4 v5 v6 w'=>∃ (x4_1 : Int) (x5_1 : Int) (x6_1 : Int),v4=.int .u64 x4_1∧v5=.int .u64 x5_1∧v6=.int .i64 x6_1∧Aside0 (thresherref01_Var.l0 kq l0 x4_1 x5_1 x6_1=some (r1,r2))∧Aside0 (kq≤k)∧Aside0 (Below w.heap.size w w'))
 case atStart=>exact ⟨(0),(1),(0),(by first|rfl|(simp;done)|(simp [*];done)),(by first|rfl|(simp;done)|(simp [*];done)),(by first|rfl|(simp;done)|(simp [*];done)),H',⟨Nat.le_refl _⟩,⟨by repeat (first|(with_reducible first|exact HB.out|apply below_alloc|apply pw_below_drewN|apply below_drew1)|exact HB.out)⟩⟩
 case round =>
  clear H'
  obtain ⟨x4_1,x5_1,x6_1,rfl,rfl,rfl,HA,HK1,HB⟩:=hrel
  cases gk with
  | zero=>exact absurd HA.out (by simp [thresherref01_Var.l0])
  | succ k1 =>
   have H:=HA.out
   clear HA
   simp only [thresherref01_Var.l0] at H
   have HC2:=Aside0.mk H
   clear H
   go_upto_region 4 with (fail)
   go_cut [14] (fun v14 wc=>∃ (kq : Nat) (x14_1 : Bool),v14=.bool x14_1∧Aside0 (thresherref01_Var.j1 kq l0 x4_1 x5_1 x6_1 x14_1=some (r1,r2))∧Aside0 (kq≤k1)∧Aside0 (Below w.heap.size w wc))
   case first =>
    have H:=HC2.out
    clear HC2
    by_cases c3 : x6_1 < (l0.length : Int)
    ·rw [if_pos c3] at H
     have c3b0 : decide (x6_1 < (l0.length : Int))=true:=decide_eq_true c3
     clear c3
     (first|rw [c3b0]|(simp only [i64_w,i32_w];rw [c3b0])|skip)
     have H':=Aside0.mk H
     clear H
     go_wp2
     go_meet
     case rel=>exact ⟨_,(decide (x6_1 < 10)),(by first|rfl|(simp;done)|(simp [*];done)),(by first|exact H'|(subst_vars;exact H')),⟨by have:=HK1.out;first|omega|exact Nat.le_refl _⟩,⟨by repeat (first|(with_reducible first|exact HB.out|apply below_alloc|apply pw_below_drewN|apply below_drew1)|exact HB.out)⟩⟩
    ·rw [if_neg c3] at H
     have c3b0 : decide (x6_1 < (l0.length : Int))=false:=decide_eq_false c3
     clear c3
     (first|rw [c3b0]|(simp only [i64_w,i32_w];rw [c3b0])|skip)
     have H':=Aside0.mk H
     clear H
     go_wp2
     go_meet
     case rel=>exact ⟨_,(false),(by first|rfl|(simp;done)|(simp [*];done)),(by first|exact H'|(subst_vars;exact H')),⟨by have:=HK1.out;first|omega|exact Nat.le_refl _⟩,⟨by repeat (first|(with_reducible first|exact HB.out|apply below_alloc|apply pw_below_drewN|apply below_drew1)|exact HB.out)⟩⟩
   case rest =>
    clear HC2
    try clear p2
    try clear c3
    try clear c3b0
    obtain ⟨kq,x14_1,rfl,HA,HJ1,HB⟩:=hcut
    cases kq with
    | zero=>exact absurd HA.out (by simp [thresherref01_Var.j1])
    | succ kj1 =>
     have H:=HA.out
     clear HA
     simp only [thresherref01_Var.j1] at H
     by_cases c4 : x14_1=true
     ·subst c4
      have H1 : (if 0≤x6_1 then (if x6_1 < (l0.length : Int) then (if (rd l0 x6_1) < 128 then ((thresherref01_PutVar.f kj1 (IntKind.u64.wrap (x4_1 + (IntKind.u64.wrap ((IntKind.u64.wrap (Int.tmod (rd l0 x6_1) 128)) * x5_1))))).bind fun t476=>(if 0≤(wrap64 (x6_1 + 1)) then (if (wrap64 (x6_1 + 1))≤(l0.length : Int) then (if (strOfNums t476).toList=(strOfNums (l0.take ((wrap64 (x6_1 + 1)) : Int).toNat)).toList then (some (IntKind.u64.wrap (x4_1 + (IntKind.u64.wrap ((IntKind.u64.wrap (Int.tmod (rd l0 x6_1) 128)) * x5_1))),wrap64 (x6_1 + 1))) else (some (0,0))) else (none)) else (none))) else (thresherref01_Var.l0 kj1 l0 (IntKind.u64.wrap (x4_1 + (IntKind.u64.wrap ((IntKind.u64.wrap (Int.tmod (rd l0 x6_1) 128)) * x5_1)))) (IntKind.u64.wrap (x5_1 * 128)) (wrap64 (x6_1 + 1)))) else (none)) else (none))=some (r1,r2):=by rw [if_pos rfl] at H;exact H
      clear H
      have H:=H1
      clear H1
      by_cases c5 : 0≤x6_1
      ·rw [if_pos c5] at H
       have c5b0 : decide (0≤x6_1)=true:=decide_eq_true c5
       clear c5
       by_cases c6 : x6_1 < (l0.length : Int)
       ·rw [if_pos c6] at H
        have c6b0 : decide (x6_1 < (l0.length : Int))=true:=decide_eq_true c6
        clear c6
        by_cases c7 : (rd l0 x6_1) < 128
        ·rw [if_pos c7] at H
         have c7b0 : decide ((rd l0 x6_1) < 128)=true:=decide_eq_true c7
         clear c7
         replace H:=Option.bind_eq_some_iff.mp H
         obtain ⟨t476,A80,H⟩:=H
         replace H : (if 0≤(wrap64 (x6_1 + 1)) then (if (wrap64 (x6_1 + 1))≤(l0.length : Int) then (if (strOfNums t476).toList=(strOfNums (l0.take ((wrap64 (x6_1 + 1)) : Int).toNat)).toList then (some (IntKind.u64.wrap (x4_1 + (IntKind.u64.wrap ((IntKind.u64.wrap (Int.tmod (rd l0 x6_1) 128)) * x5_1))),wrap64 (x6_1 + 1))) else (some (0,0))) else (none)) else (none))=some (r1,r2):=H
         have A8:=Aside0.mk A80
         clear A80
         obtain ⟨ji9,hji9⟩ : ∃ j_ : Int,(wrap64 (x6_1 + 1))=j_:=⟨_,rfl⟩
         replace H : (if 0≤(ji9) then (if (ji9)≤(l0.length : Int) then (if (strOfNums t476).toList=(strOfNums (l0.take ((ji9) : Int).toNat)).toList then (some (IntKind.u64.wrap (x4_1 + (IntKind.u64.wrap ((IntKind.u64.wrap (Int.tmod (rd l0 x6_1) 128)) * x5_1))),ji9)) else (some (0,0))) else (none)) else (none))=some (r1,r2):=by first|(rw [hji9] at H;exact H)|(simp only [hji9] at H ⊢;exact H)
         (try rw [hji9] at A8)
         have hji9w : (IntKind.i64.wrap (x6_1 + 1))=ji9:=(i64_w _).trans hji9
         by_cases c10 : 0≤(ji9)
         ·rw [if_pos c10] at H
          have c10b0:=eq_true c10
          have c10b1 : decide (0≤(ji9))=true:=decide_eq_true c10
          clear c10
          by_cases c11 : (ji9)≤(l0.length : Int)
          ·rw [if_pos c11] at H
           have c11b0:=eq_true c11
           have c11b1 : decide ((ji9)≤(l0.length : Int))=true:=decide_eq_true c11
           clear c11
           by_cases c12 : (strOfNums t476).toList=(strOfNums (l0.take ((ji9) : Int).toNat)).toList
           ·rw [if_pos c12] at H
            have c12b0 : ((strOfNums t476).toList == (strOfNums (l0.take ((ji9) : Int).toNat)).toList)=true:=beq_iff_eq.mpr c12
            have c12b1 : ((strOfNums t476).toList != (strOfNums (l0.take ((ji9) : Int).toNat)).toList)=false:=bne_eq_false_iff_eq.mpr c12
            clear c12
            simp only [Option.some.injEq,Prod.mk.injEq] at H
            obtain ⟨rfl,rfl⟩:=H
            have p474 : 0≤(x6_1 : Int):=of_decide_eq_true (by first|(with_reducible assumption)|assumption)
            have q474 : x6_1 < (l0.length : Int):=of_decide_eq_true (by first|(with_reducible assumption)|assumption)
            obtain ⟨ad474,e474,hx474_0⟩:=Kd.at_int HR0.out x6_1 p474 q474
            cases e474
            replace hx474_0:=(HB.out.cell (World.block_lt_of_cell? w _ hx474_0)).trans hx474_0
            replace p474:=eq_true p474
            replace q474:=eq_true q474
            have p475 : 0≤(x6_1 : Int):=of_decide_eq_true (by first|(with_reducible assumption)|assumption)
            have q475 : x6_1 < (l0.length : Int):=of_decide_eq_true (by first|(with_reducible assumption)|assumption)
            obtain ⟨ad475,e475,hx475_0⟩:=Kd.at_int HR0.out x6_1 p475 q475
            obtain rfl : ad474=ad475:=(by injection e475)
            replace hx475_0:=(HB.out.cell (World.block_lt_of_cell? w _ hx475_0)).trans hx475_0
            replace p475:=eq_true p475
            replace q475:=eq_true q475
            try go_wp2
            have n0_:=Aside0.mk (below_drew1 HB.out)
            clear HB
            have HB:=n0_
            clear n0_
            obtain ⟨i014,hi014,_,hsz14,_⟩:=info_parts info5
            obtain ⟨hcut14,hA14,hC14⟩:=print_take_of (P:=Try.prog) (Value.int .u8) 0 41 5 .i64 Try.underlying41 hi014 hsz14 (some ad474) c0 l0 (ji9) (of_decide_eq_true (by first|(with_reducible assumption)|assumption)) (of_decide_eq_true (by first|(with_reducible assumption)|assumption)) HC0.out
            have HR479:=Aside0.mk (Kd.C_of_reads (h1:=fun _=>rfl) (hA14 _ (Kd.reads_of_C HR0.out)))
            have HC479:=Aside0.mk hC14
            clear hA14 hC14 hi014 hsz14
            have hcs : ∀ W,Below w.heap.size w W→Sem.run Try.prog (convert 41 9 (.slice (some ad474) ((ji9) : Int).toNat c0)) W=.ok (.string (strOfNums (l0.take ((ji9) : Int).toNat))) W:=fun W hW_=>by
             have h_:=Kd.C_string (P:=Try.prog) (A:=(some ad474)) (c:=c0) Try.underlying41 Try.underlying5 Try.underlying9 (Kd.C_below HR479.out hW_)
             have hl_ : (l0.take ((ji9) : Int).toNat).length=((ji9) : Int).toNat:=(by rw [List.length_take];have h_ : (ji9 : Int)≤(l0.length : Int):=of_decide_eq_true (by first|(with_reducible assumption)|assumption);omega)
             rw [hl_] at h_
             exact h_
            refine start_ (n:=9) (S:=fun w'=>Sem.run Try.prog (convert 41 9 (.slice (some ad474) ((ji9) : Int).toNat c0)) w'=.ok (.string (strOfNums (l0.take ((ji9) : Int).toNat))) w') (ds:=[]) #[false,false,false,false,false,false,false,false,false] (by kernel_rfl) rfl rfl (hcs _ HB.out) (fun hHeld=>?_);refine with_tabW thresherref01_Var.tab9 thresherref01_Var.bits9 (fun HT_ HW_=>?_)
            generalize wc.drew=w13 at HB HR479 hHeld ⊢
            refine pure_ (i:=0) (N:=some 34) (v:=?_) (a':=?_) #[true,false,false,false,false,false,false,false,false] rfl rfl (any_of HT_.out (by kernel_rfl)) (fun _ _ _ h=>h) (Or.inl ⟨by rfl,?_⟩) ?_ ?_
            rotate_left;(intro w';go_simp;with_reducible rfl);rotate_left;(simp only [Act.put,List.setIfInBounds_toArray,List.set_cons_zero,List.set_cons_succ,i64_w,i32_w];rfl)
            refine pure_ (i:=3) (N:=some 37) (v:=?_) (a':=?_) #[true,false,false,true,false,false,false,false,false] rfl rfl (any_of HT_.out (by kernel_rfl)) (fun _ _ _ h=>h) (Or.inl ⟨by rfl,?_⟩) ?_ ?_
            rotate_left;(intro w';go_simp;with_reducible rfl);rotate_left;(simp only [Act.put,List.setIfInBounds_toArray,List.set_cons_zero,List.set_cons_succ,i64_w,i32_w];rfl)
            refine pure_ (i:=4) (N:=some 38) (v:=?_) (a':=?_) #[true,false,false,true,true,false,false,false,false] rfl rfl (any_of HT_.out (by kernel_rfl)) (fun _ _ _ h=>h) (Or.inl ⟨by rfl,?_⟩) ?_ ?_
            rotate_left;(intro w';go_simp;with_reducible rfl);rotate_left;(simp only [Act.put,List.setIfInBounds_toArray,List.set_cons_zero,List.set_cons_succ,i64_w,i32_w];rfl)
            refine pure_ (i:=5) (N:=some 39) (v:=?_) (a':=?_) #[true,false,false,true,true,true,false,false,false] rfl rfl (any_of HT_.out (by kernel_rfl)) (fun _ _ _ h=>h) (Or.inl ⟨by rfl,?_⟩) ?_ ?_
            rotate_left;(intro w';go_simp;with_reducible rfl);rotate_left;(simp only [Act.put,List.setIfInBounds_toArray,List.set_cons_zero,List.set_cons_succ,i64_w,i32_w];rfl)
            refine pure_ (i:=6) (N:=some 40) (v:=?_) (a':=?_) #[true,false,false,true,true,true,true,false,false] rfl rfl (any_of HT_.out (by kernel_rfl)) (fun _ _ _ h=>h) (Or.inl ⟨by rfl,?_⟩) ?_ ?_
            rotate_left;(intro w';go_simp;with_reducible rfl);rotate_left;(simp only [Act.put,List.setIfInBounds_toArray,List.set_cons_zero,List.set_cons_succ,i64_w,i32_w];rfl)
            refine take_ (i:=7) (N:=some 41) (v:=?_) (a':=?_) #[true,false,false,true,true,true,true,true,false] rfl rfl (take_ofW HT_.out HW_.out (by kernel_rfl)) (fun _ _ _ h=>h) (Or.inl ⟨by rfl,?_⟩) hHeld ?_ ?_
            rotate_left;(rintro w' s0;go_simp;with_reducible rfl);rotate_left;(simp only [Act.put,List.setIfInBounds_toArray,List.set_cons_zero,List.set_cons_succ,i64_w,i32_w];rfl)
            refine one_ (i:=1) (N:=some 35) #[true,true,false,true,true,true,true,true,false] rfl rfl (one_of HT_.out (by kernel_rfl)) (by decide) (fun K hK=>?_)
            refine goes_ Try.func42 (by kernel_rfl) rfl #[.int .u64 (IntKind.u64.wrap (x4_1 + (IntKind.u64.wrap ((IntKind.u64.wrap (Int.tmod (rd l0 x6_1) 128)) * x5_1))))] (by rfl) rfl rfl (by (try simp only [List.map_toArray,List.map_cons,List.map_nil]);first|done|rfl|(simp only [List.length_drop,List.length_take];rfl)) ?_
            with_reducible refine (thresherref01_PutVar.calls kj1 (IntKind.u64.wrap (x4_1 + (IntKind.u64.wrap ((IntKind.u64.wrap (Int.tmod (rd l0 x6_1) 128)) * x5_1)))) t476 _ A8.out).mono ?_
            rintro e w15 ⟨v477,rfl,ho0,hb⟩
            refine ⟨_,rfl,?_⟩
            have n0_:=Aside0.mk (Kd.R_lower ho0 (below_size (below_up HB.out)))
            have n1_:=Aside0.mk (below_step (below_up HB.out) hb)
            clear HB
            have HO478:=n0_
            have HB:=n1_
            clear n0_ n1_
            (try clear hb)
            (try clear hb2)
            (try clear hk)
            (try clear hi)
            (try clear ho0)
            have hcv17:=Kd.C_string (P:=Try.prog) (A:=(some ad474)) (c:=c0) Try.underlying41 Try.underlying5 Try.underlying9 (Kd.C_below HR479.out HB.out)
            refine hK.out _ _ (hcs _ HB.out) (fun hHeld=>?_)
            clear hK K
            refine norm_ (a':=?_) ?_ ?_
            rotate_left
            ·show Act.put _ (some 35) _=_
             simp only [Act.put,List.setIfInBounds_toArray,List.set_cons_zero,List.set_cons_succ,i64_w,i32_w]
             rfl
            refine one_ (i:=2) (N:=some 36) #[true,true,true,true,true,true,true,true,false] rfl rfl (one_of HT_.out (by kernel_rfl)) (by decide) (fun K hK=>?_)
            have hcv16:=own_string (P:=Try.prog) Try.underlying41 Try.underlying5 Try.underlying9 (Kd.own_of_R HO478.out)
            refine value_ (w1:=?_) (v:=?_) (by rfl) rfl ?_ ?_
            rotate_left 2
            ·go_simp
             constructor
             ·rfl
             ·rfl
            clear hcv16
            refine hK.out _ _ (hcs _ HB.out) (fun hHeld=>?_)
            clear hK K
            refine norm_ (a':=?_) ?_ ?_
            rotate_left
            ·show Act.put _ (some 36) _=_
             simp only [Act.put,List.setIfInBounds_toArray,List.set_cons_zero,List.set_cons_succ,i64_w,i32_w]
             rfl
            refine pure_ (i:=8) (N:=some 42) (v:=?_) (a':=?_) #[true,true,true,true,true,true,true,true,true] rfl rfl (any_of HT_.out (by kernel_rfl)) (fun _ _ _ h=>h) (Or.inl ⟨by rfl,?_⟩) ?_ ?_
            rotate_left;(intro w';go_simp;with_reducible rfl);rotate_left;(simp only [Act.put,List.setIfInBounds_toArray,List.set_cons_zero,List.set_cons_succ,i64_w,i32_w];rfl)
            refine done_ (done_of HT_.out (by kernel_rfl)) ?_
            (try clear hHeld)
            try go_wp2
            go_ret2
            exact ⟨by first|rfl|(simp [errW_none,errW_some] <;> rfl)|(simp only [← hji9];first|rfl|(simp [errW_none,errW_some] <;> rfl))|(simp [*,errW_none,errW_some] <;> rfl),by repeat (first|(with_reducible first|exact HB.out|apply below_alloc|apply pw_below_drewN|apply below_drew1)|exact HB.out)⟩
           ·rw [if_neg c12] at H
            have c12b0 : ((strOfNums t476).toList == (strOfNums (l0.take ((ji9) : Int).toNat)).toList)=false:=beq_eq_false_iff_ne.mpr c12
            have c12b1 : ((strOfNums t476).toList != (strOfNums (l0.take ((ji9) : Int).toNat)).toList)=true:=bne_iff_ne.mpr c12
            simp only [Option.some.injEq,Prod.mk.injEq] at H
            obtain ⟨rfl,rfl⟩:=H
            have p474 : 0≤(x6_1 : Int):=of_decide_eq_true (by first|(with_reducible assumption)|assumption)
            have q474 : x6_1 < (l0.length : Int):=of_decide_eq_true (by first|(with_reducible assumption)|assumption)
            obtain ⟨ad474,e474,hx474_0⟩:=Kd.at_int HR0.out x6_1 p474 q474
            cases e474
            replace hx474_0:=(HB.out.cell (World.block_lt_of_cell? w _ hx474_0)).trans hx474_0
            replace p474:=eq_true p474
            replace q474:=eq_true q474
            have p475 : 0≤(x6_1 : Int):=of_decide_eq_true (by first|(with_reducible assumption)|assumption)
            have q475 : x6_1 < (l0.length : Int):=of_decide_eq_true (by first|(with_reducible assumption)|assumption)
            obtain ⟨ad475,e475,hx475_0⟩:=Kd.at_int HR0.out x6_1 p475 q475
            obtain rfl : ad474=ad475:=(by injection e475)
            replace hx475_0:=(HB.out.cell (World.block_lt_of_cell? w _ hx475_0)).trans hx475_0
            replace p475:=eq_true p475
            replace q475:=eq_true q475
            try go_wp2
            have n0_:=Aside0.mk (below_drew1 HB.out)
            clear HB
            have HB:=n0_
            clear n0_
            obtain ⟨i020,hi020,_,hsz20,_⟩:=info_parts info5
            obtain ⟨hcut20,hA20,hC20⟩:=print_take_of (P:=Try.prog) (Value.int .u8) 0 41 5 .i64 Try.underlying41 hi020 hsz20 (some ad474) c0 l0 (ji9) (of_decide_eq_true (by first|(with_reducible assumption)|assumption)) (of_decide_eq_true (by first|(with_reducible assumption)|assumption)) HC0.out
            have HR479:=Aside0.mk (Kd.C_of_reads (h1:=fun _=>rfl) (hA20 _ (Kd.reads_of_C HR0.out)))
            have HC479:=Aside0.mk hC20
            clear hA20 hC20 hi020 hsz20
            have hcs : ∀ W,Below w.heap.size w W→Sem.run Try.prog (convert 41 9 (.slice (some ad474) ((ji9) : Int).toNat c0)) W=.ok (.string (strOfNums (l0.take ((ji9) : Int).toNat))) W:=fun W hW_=>by
             have h_:=Kd.C_string (P:=Try.prog) (A:=(some ad474)) (c:=c0) Try.underlying41 Try.underlying5 Try.underlying9 (Kd.C_below HR479.out hW_)
             have hl_ : (l0.take ((ji9) : Int).toNat).length=((ji9) : Int).toNat:=(by rw [List.length_take];have h_ : (ji9 : Int)≤(l0.length : Int):=of_decide_eq_true (by first|(with_reducible assumption)|assumption);omega)
             rw [hl_] at h_
             exact h_
            refine start_ (n:=9) (S:=fun w'=>Sem.run Try.prog (convert 41 9 (.slice (some ad474) ((ji9) : Int).toNat c0)) w'=.ok (.string (strOfNums (l0.take ((ji9) : Int).toNat))) w') (ds:=[]) #[false,false,false,false,false,false,false,false,false] (by kernel_rfl) rfl rfl (hcs _ HB.out) (fun hHeld=>?_);refine with_tabW thresherref01_Var.tab9 thresherref01_Var.bits9 (fun HT_ HW_=>?_)
            generalize wc.drew=w19 at HB HR479 hHeld ⊢
            refine pure_ (i:=0) (N:=some 34) (v:=?_) (a':=?_) #[true,false,false,false,false,false,false,false,false] rfl rfl (any_of HT_.out (by kernel_rfl)) (fun _ _ _ h=>h) (Or.inl ⟨by rfl,?_⟩) ?_ ?_
            rotate_left;(intro w';go_simp;with_reducible rfl);rotate_left;(simp only [Act.put,List.setIfInBounds_toArray,List.set_cons_zero,List.set_cons_succ,i64_w,i32_w];rfl)
            refine pure_ (i:=3) (N:=some 37) (v:=?_) (a':=?_) #[true,false,false,true,false,false,false,false,false] rfl rfl (any_of HT_.out (by kernel_rfl)) (fun _ _ _ h=>h) (Or.inl ⟨by rfl,?_⟩) ?_ ?_
            rotate_left;(intro w';go_simp;with_reducible rfl);rotate_left;(simp only [Act.put,List.setIfInBounds_toArray,List.set_cons_zero,List.set_cons_succ,i64_w,i32_w];rfl)
            refine pure_ (i:=4) (N:=some 38) (v:=?_) (a':=?_) #[true,false,false,true,true,false,false,false,false] rfl rfl (any_of HT_.out (by kernel_rfl)) (fun _ _ _ h=>h) (Or.inl ⟨by rfl,?_⟩) ?_ ?_
            rotate_left;(intro w';go_simp;with_reducible rfl);rotate_left;(simp only [Act.put,List.setIfInBounds_toArray,List.set_cons_zero,List.set_cons_succ,i64_w,i32_w];rfl)
            refine pure_ (i:=5) (N:=some 39) (v:=?_) (a':=?_) #[true,false,false,true,true,true,false,false,false] rfl rfl (any_of HT_.out (by kernel_rfl)) (fun _ _ _ h=>h) (Or.inl ⟨by rfl,?_⟩) ?_ ?_
            rotate_left;(intro w';go_simp;with_reducible rfl);rotate_left;(simp only [Act.put,List.setIfInBounds_toArray,List.set_cons_zero,List.set_cons_succ,i64_w,i32_w];rfl)
            refine pure_ (i:=6) (N:=some 40) (v:=?_) (a':=?_) #[true,false,false,true,true,true,true,false,false] rfl rfl (any_of HT_.out (by kernel_rfl)) (fun _ _ _ h=>h) (Or.inl ⟨by rfl,?_⟩) ?_ ?_
            rotate_left;(intro w';go_simp;with_reducible rfl);rotate_left;(simp only [Act.put,List.setIfInBounds_toArray,List.set_cons_zero,List.set_cons_succ,i64_w,i32_w];rfl)
            refine take_ (i:=7) (N:=some 41) (v:=?_) (a':=?_) #[true,false,false,true,true,true,true,true,false] rfl rfl (take_ofW HT_.out HW_.out (by kernel_rfl)) (fun _ _ _ h=>h) (Or.inl ⟨by rfl,?_⟩) hHeld ?_ ?_
            rotate_left;(rintro w' s0;go_simp;with_reducible rfl);rotate_left;(simp only [Act.put,List.setIfInBounds_toArray,List.set_cons_zero,List.set_cons_succ,i64_w,i32_w];rfl)
            refine one_ (i:=1) (N:=some 35) #[true,true,false,true,true,true,true,true,false] rfl rfl (one_of HT_.out (by kernel_rfl)) (by decide) (fun K hK=>?_)
            refine goes_ Try.func42 (by kernel_rfl) rfl #[.int .u64 (IntKind.u64.wrap (x4_1 + (IntKind.u64.wrap ((IntKind.u64.wrap (Int.tmod (rd l0 x6_1) 128)) * x5_1))))] (by rfl) rfl rfl (by (try simp only [List.map_toArray,List.map_cons,List.map_nil]);first|done|rfl|(simp only [List.length_drop,List.length_take];rfl)) ?_
            with_reducible refine (thresherref01_PutVar.calls kj1 (IntKind.u64.wrap (x4_1 + (IntKind.u64.wrap ((IntKind.u64.wrap (Int.tmod (rd l0 x6_1) 128)) * x5_1)))) t476 _ A8.out).mono ?_
            rintro e w21 ⟨v477,rfl,ho0,hb⟩
            refine ⟨_,rfl,?_⟩
            have n0_:=Aside0.mk (Kd.R_lower ho0 (below_size (below_up HB.out)))
            have n1_:=Aside0.mk (below_step (below_up HB.out) hb)
            clear HB
            have HO478:=n0_
            have HB:=n1_
            clear n0_ n1_
            (try clear hb)
            (try clear hb2)
            (try clear hk)
            (try clear hi)
            (try clear ho0)
            have hcv23:=Kd.C_string (P:=Try.prog) (A:=(some ad474)) (c:=c0) Try.underlying41 Try.underlying5 Try.underlying9 (Kd.C_below HR479.out HB.out)
            refine hK.out _ _ (hcs _ HB.out) (fun hHeld=>?_)
            clear hK K
            refine norm_ (a':=?_) ?_ ?_
            rotate_left
            ·show Act.put _ (some 35) _=_
             simp only [Act.put,List.setIfInBounds_toArray,List.set_cons_zero,List.set_cons_succ,i64_w,i32_w]
             rfl
            refine one_ (i:=2) (N:=some 36) #[true,true,true,true,true,true,true,true,false] rfl rfl (one_of HT_.out (by kernel_rfl)) (by decide) (fun K hK=>?_)
            have hcv22:=own_string (P:=Try.prog) Try.underlying41 Try.underlying5 Try.underlying9 (Kd.own_of_R HO478.out)
            refine value_ (w1:=?_) (v:=?_) (by rfl) rfl ?_ ?_
            rotate_left 2
            ·go_simp
             constructor
             ·rfl
             ·rfl
            clear hcv22
            refine hK.out _ _ (hcs _ HB.out) (fun hHeld=>?_)
            clear hK K
            refine norm_ (a':=?_) ?_ ?_
            rotate_left
            ·show Act.put _ (some 36) _=_
             simp only [Act.put,List.setIfInBounds_toArray,List.set_cons_zero,List.set_cons_succ,i64_w,i32_w]
             rfl
            refine pure_ (i:=8) (N:=some 42) (v:=?_) (a':=?_) #[true,true,true,true,true,true,true,true,true] rfl rfl (any_of HT_.out (by kernel_rfl)) (fun _ _ _ h=>h) (Or.inl ⟨by rfl,?_⟩) ?_ ?_
            rotate_left;(intro w';go_simp;with_reducible rfl);rotate_left;(simp only [Act.put,List.setIfInBounds_toArray,List.set_cons_zero,List.set_cons_succ,i64_w,i32_w];rfl)
            refine done_ (done_of HT_.out (by kernel_rfl)) ?_
            (try clear hHeld)
            try go_wp2
            go_ret2
            exact ⟨by first|rfl|(simp [errW_none,errW_some] <;> rfl)|(simp only [← hji9];first|rfl|(simp [errW_none,errW_some] <;> rfl))|(simp [*,errW_none,errW_some] <;> rfl),by repeat (first|(with_reducible first|exact HB.out|apply below_alloc|apply pw_below_drewN|apply below_drew1)|exact HB.out)⟩
          ·rw [if_neg c11] at H
           exact absurd H (by simp)
         ·rw [if_neg c10] at H
          exact absurd H (by simp)
        ·rw [if_neg c7] at H
         have c7b0 : decide ((rd l0 x6_1) < 128)=false:=decide_eq_false c7
         clear c7
         have H':=Aside0.mk H
         clear H
         have p474 : 0≤(x6_1 : Int):=of_decide_eq_true (by first|(with_reducible assumption)|assumption)
         have q474 : x6_1 < (l0.length : Int):=of_decide_eq_true (by first|(with_reducible assumption)|assumption)
         obtain ⟨ad474,e474,hx474_0⟩:=Kd.at_int HR0.out x6_1 p474 q474
         cases e474
         replace hx474_0:=(HB.out.cell (World.block_lt_of_cell? w _ hx474_0)).trans hx474_0
         replace p474:=eq_true p474
         replace q474:=eq_true q474
         have p475 : 0≤(x6_1 : Int):=of_decide_eq_true (by first|(with_reducible assumption)|assumption)
         have q475 : x6_1 < (l0.length : Int):=of_decide_eq_true (by first|(with_reducible assumption)|assumption)
         obtain ⟨ad475,e475,hx475_0⟩:=Kd.at_int HR0.out x6_1 p475 q475
         obtain rfl : ad474=ad475:=(by injection e475)
         replace hx475_0:=(HB.out.cell (World.block_lt_of_cell? w _ hx475_0)).trans hx475_0
         replace p475:=eq_true p475
         replace q475:=eq_true q475
         go_wp2
         go_roundg kj1
         case measure=>have:=HK1.out;have:=HJ1.out;omega
         case rel=>exact ⟨(IntKind.u64.wrap (x4_1 + (IntKind.u64.wrap ((IntKind.u64.wrap (Int.tmod (rd l0 x6_1) 128)) * x5_1)))),(IntKind.u64.wrap (x5_1 * 128)),(wrap64 (x6_1 + 1)),(by first|rfl|(simp;done)|(simp [*];done)),(by first|rfl|(simp;done)|(simp [*];done)),(by first|rfl|(simp;done)|(simp [*];done)),(by first|exact H'|(subst_vars;exact H')),⟨by have:=HK1.out;have:=HJ1.out;omega⟩,⟨by repeat (first|(with_reducible first|exact HB.out|apply below_alloc|apply pw_below_drewN|apply below_drew1)|exact HB.out)⟩⟩
       ·rw [if_neg c6] at H
        exact absurd H (by simp)
      ·rw [if_neg c5] at H
       exact absurd H (by simp)
     ·replace c4:=Bool.eq_false_iff.mpr c4
      subst c4
      have H1 : (some (0,0))=some (r1,r2):=by rw [if_neg (show ¬ (false=true) by decide)] at H;exact H
      clear H
      have H:=H1
      clear H1
      simp only [Option.some.injEq,Prod.mk.injEq] at H
      obtain ⟨rfl,rfl⟩:=H
      go_wp2
      go_ret2
      exact ⟨by first|rfl|(simp [errW_none,errW_some] <;> rfl)|(simp [*,errW_none,errW_some] <;> rfl),by repeat (first|(with_reducible first|exact HB.out|apply below_alloc|apply pw_below_drewN|apply below_drew1)|exact HB.out)⟩
end Go.Proofs.Ytkodpbellndelaa.P

