/- Texts of OrderPlaces. Merged: HOrdD. -/
import Derived.Test.YtojbeofipedolaaQOrderPlacesHOrdC
/- slices.symMergeCmpFunc over order.Sort's closure, by hand. -/
namespace Go.Proofs.Ytojbeofipedolaa.P
open Go.RowKit Go.Proofs.YtojbeofipedolaaW.PrintWords Go.Proofs.YtojbeofipedolaaW.PrintLast Go.Proofs.YtojbeofipedolaaW.PrintMore
set_option linter.unusedVariables false
set_option linter.unusedSimpArgs false
theorem goUp_length : ∀ (d k : Nat) (xs : List Nat),(goUp 0 d k xs).length=xs.length
 | 0,_,_=>rfl
 | d + 1,k,xs=>by unfold goUp;rw [goUp_length,swp_length]
theorem goDn_length : ∀ (d k : Nat) (xs : List Nat),(goDn 0 d k xs).length=xs.length
 | 0,_,_=>rfl
 | d + 1,k,xs=>by unfold goDn;rw [goDn_length,swp_length]
theorem rot_length (m : Nat) : ∀ (f i j : Nat) (xs : List Nat),(rot 0 m f i j xs).length=xs.length
 | 0,_,_,_=>rfl
 | f + 1,i,j,xs=>by
  unfold rot
  split
  ·rw [swapR_length]
  ·split
   ·rw [rot_length,swapR_length]
   ·rw [rot_length,swapR_length]
theorem symM_length (lt : Nat→Nat→Bool) : ∀ (f a m b : Nat) (xs : List Nat),(symM 0 lt f a m b xs).length=xs.length
 | 0,_,_,_,_=>rfl
 | f + 1,a,m,b,xs=>by
  unfold symM
  split
  ·exact goUp_length _ _ _
  ·split
   ·exact goDn_length _ _ _
   ·dsimp only
    repeat' split
    all_goals (first|rfl|simp only [symM_length lt f,rot_length])
set_option maxHeartbeats 8000000 in
set_option maxRecDepth 100000 in
theorem symOne_any (w0 : World) (gs go : Nat) (cs : Array Value) (V : Nat→Value) (hV1 : ∀ i,∃ A n c,V i=.slice A n c) (cf : Nat→Nat→Int) (hC : CmpOk w0 gs go cs V cf) (n cap : Nat) (hn : n≤1000000000) (f a m b : Nat) (p : List Nat) (w : World) (hS : SW0 w0 w gs go cs V p) (hp : p.length=n) (hab : a < m) (hmb : m < b) (hb : b≤n) (h1 : m - a=1) :
  Calls Try.prog 38 #[.slice (some ⟨go,0,none⟩) n cap,.int .i64 a,.int .i64 m,.int .i64 b,FV gs] w fun e w'=>e=.returned (.tuple #[])∧SW0 w0 w' gs go cs V (symM 0 (ltC cf) (f + 1) a m b p):=by
 unfold FV
 have mixed : Try.prog.follows Departure.mixedOrders=true:=rfl
 have HS:=Aside0.mk hS
 have HV1:=Aside0.mk hV1
 have HC:=Aside0.mk hC
 have HN:=Aside0.mk (And.intro hp (And.intro hab (And.intro hmb (And.intro hb hn))))
 clear hS hV1 hC
 unfold symM
 rw [if_pos h1]
 dsimp only
 obtain rfl : m=a + 1:=by omega
 have c0 : ((a : Int) + 1 - (a : Int) == 1)=true:=by rw [beq_iff_eq];omega
 obtain ⟨P,hP⟩ : ∃ P : Nat→Bool,P=fun h=>!ltC cf (gt_ 0 p h) (gt_ 0 p a):=⟨_,rfl⟩
 obtain ⟨r,hr⟩ : ∃ r,r=bsr P (b - (a + 1)) (a + 1) b:=⟨_,rfl⟩
 have HP:=Aside0.mk hP
 have HR:=Aside0.mk hr
 clear hP hr
 have HG:=Aside0.mk (show goUp 0 (bsr (fun h=>!ltC cf (gt_ 0 p h) (gt_ 0 p a)) (b - (a + 1)) (a + 1) b - 1 - a) a p=goUp 0 (r - 1 - a) a p by rw [HR.out,HP.out])
 rw [HG.out]
 clear HG
 go_enter Try.func38,Try.ntmps38
 go_wp2
 go_loopg [10,11] (b - (a + 1)) (fun gk v10 v11 wr=>∃ (i j : Nat),v10=.int .i64 i∧v11=.int .i64 j∧Aside0 ((a + 1)≤i∧i≤j∧j≤b∧j - i≤gk)∧Aside0 (r=bsr P (j - i) i j)∧Aside0 (SW0 w0 wr gs go cs V p))
 case atStart=>exact ⟨(a + 1),b,by first|rfl|go_num|(congr 1;done)|(congr 1;omega),by first|rfl|go_num|(congr 1;done)|(congr 1;omega),⟨by omega⟩,HR,HS⟩
 case round =>
  clear HS
  obtain ⟨i,j,rfl,rfl,HK,HQ,HS⟩:=hrel
  by_cases hlt : i < j
  ·have hltz : (i : Int) < (j : Int):=by omega
   have hjb : (j : Int)≤1000000000:=by have:=HK.out;have:=HN.out;omega
   obtain ⟨h,hh⟩ : ∃ h,h=(i + j) / 2:=⟨_,rfl⟩
   have eh : ((i : Int) + (j : Int)) / 2=(h : Int):=by omega
   have hq:=HQ.out
   rw [show j - i=(j - i - 1) + 1 by omega,bsr,if_pos hlt,← hh] at hq
   have HH:=Aside0.mk (show i≤h∧h < j by omega)
   obtain ⟨Ax,nx,cx,hvx⟩:=HV1.out (gt_ 0 p h)
   obtain ⟨Ay,ny,cy,hvy⟩:=HV1.out (gt_ 0 p a)
   obtain ⟨z,hz⟩ : ∃ z,z=cf (gt_ 0 p h) (gt_ 0 p a):=⟨_,rfl⟩
   have hcm : ∀ W,SW0 w0 W gs go cs V p→Calls Try.prog 25 #[.slice Ax nx cx,.slice Ay ny cy,.pointer (some ⟨gs,0,none⟩)] W fun e w'=>e=.returned (.int .i64 z)∧Below W.heap.size W w':=fun W h=>by
    rw [← hvx,← hvy,hz];exact HC.out W p h _ _
   have HCM:=Aside0.mk hcm
   have hpl : h < p.length∧a < p.length:=by have:=HK.out;have:=HH.out;have:=HN.out;omega
   have hcx : wr.cell? ⟨go,h,none⟩=some (.slice Ax nx cx):=by rw [← hvx];exact HS.out.cell h hpl.1
   have hcy : wr.cell? ⟨go,a,none⟩=some (.slice Ay ny cy):=by rw [← hvy];exact HS.out.cell a hpl.2
   have q0 : (0≤(h : Int))=True:=eq_true (by omega)
   have q1 : ((h : Int) < (n : Int))=True:=eq_true (by have:=HN.out;omega)
   have q2 : (0≤(a : Int))=True:=eq_true (by omega)
   have q3 : ((a : Int) < (n : Int))=True:=eq_true (by have:=HN.out;omega)
   have HD:=Aside0.mk (below_drew1 (Below.refl wr.heap.size wr))
   have hPh : P h=!decide (z < 0):=by rw [HP.out,hz];rfl
   clear hcm hpl hlt hvx hvy hz
   by_cases hlv : z < 0
   ·have c1 : decide (z < 0)=true:=decide_eq_true hlv
    rw [hPh,c1] at hq
    have HQ2:=Aside0.mk hq
    clear hq hPh hh hlv
    go_wp2_with fail
    refine start_ (n:=11) (S:=fun w'=>w'.cell? ⟨go,h,none⟩=some (.slice Ax nx cx)∧w'.cell? ⟨go,a,none⟩=some (.slice Ay ny cy)) (ds:=[]) #[false,false,false,false,false,false,false,false,false,false,false] (by kernel_rfl) rfl rfl ⟨hcx,hcy⟩ (fun hHeld=>?_)
    refine pure_ (i:=0) (N:=some 40) (v:=?_) (a':=?_) #[true,false,false,false,false,false,false,false,false,false,false] rfl rfl (by kernel_rfl) (fun _ _ _ h=>h) (Or.inl ⟨by rfl,?_⟩) ?_ ?_
    rotate_left;(intro w';go_simp;with_reducible rfl);rotate_left;(simp only [Act.put,List.setIfInBounds_toArray,List.set_cons_zero,List.set_cons_succ,i64_w,i32_w];rfl)
    refine pure_ (i:=1) (N:=some 41) (v:=?_) (a':=?_) #[true,true,false,false,false,false,false,false,false,false,false] rfl rfl (by kernel_rfl) (fun _ _ _ h=>h) (Or.inl ⟨by rfl,?_⟩) ?_ ?_
    rotate_left;(intro w';go_simp;with_reducible rfl);rotate_left;(simp only [Act.put,List.setIfInBounds_toArray,List.set_cons_zero,List.set_cons_succ,i64_w,i32_w];rfl)
    refine pure_ (i:=2) (N:=some 42) (v:=?_) (a':=?_) #[true,true,true,false,false,false,false,false,false,false,false] rfl rfl (by kernel_rfl) (fun _ _ _ h=>h) (Or.inl ⟨by rfl,?_⟩) ?_ ?_
    rotate_left;(intro w';go_simp;with_reducible rfl);rotate_left;(simp only [Act.put,List.setIfInBounds_toArray,List.set_cons_zero,List.set_cons_succ,i64_w,i32_w];rfl)
    refine pure_ (i:=3) (N:=some 43) (v:=?_) (a':=?_) #[true,true,true,true,false,false,false,false,false,false,false] rfl rfl (by kernel_rfl) (fun _ _ _ h=>h) (Or.inl ⟨by rfl,?_⟩) ?_ ?_
    rotate_left;(intro w';go_simp;with_reducible rfl);rotate_left;(simp only [Act.put,List.setIfInBounds_toArray,List.set_cons_zero,List.set_cons_succ,i64_w,i32_w];rfl)
    refine pure_ (i:=5) (N:=some 45) (v:=?_) (a':=?_) #[true,true,true,true,false,true,false,false,false,false,false] rfl rfl (by kernel_rfl) (fun _ _ _ h=>h) (Or.inl ⟨by rfl,?_⟩) ?_ ?_
    rotate_left;(intro w';go_simp;with_reducible rfl);rotate_left;(simp only [Act.put,List.setIfInBounds_toArray,List.set_cons_zero,List.set_cons_succ,i64_w,i32_w];rfl)
    refine pure_ (i:=6) (N:=some 46) (v:=?_) (a':=?_) #[true,true,true,true,false,true,true,false,false,false,false] rfl rfl (by kernel_rfl) (fun _ _ _ h=>h) (Or.inl ⟨by rfl,?_⟩) ?_ ?_
    rotate_left;(intro w';go_simp;with_reducible rfl);rotate_left;(simp only [Act.put,List.setIfInBounds_toArray,List.set_cons_zero,List.set_cons_succ,i64_w,i32_w];rfl)
    refine pure_ (i:=7) (N:=some 47) (v:=?_) (a':=?_) #[true,true,true,true,false,true,true,true,false,false,false] rfl rfl (by kernel_rfl) (fun _ _ _ h=>h) (Or.inl ⟨by rfl,?_⟩) ?_ ?_
    rotate_left;(intro w';go_simp;with_reducible rfl);rotate_left;(simp only [Act.put,List.setIfInBounds_toArray,List.set_cons_zero,List.set_cons_succ,i64_w,i32_w];rfl)
    refine take_ (i:=4) (N:=some 44) (v:=?_) (a':=?_) #[true,true,true,true,true,true,true,true,false,false,false] rfl rfl (by kernel_rfl) (fun _ _ _ h=>h) (Or.inl ⟨by rfl,?_⟩) hHeld ?_ ?_
    rotate_left;(rintro w' ⟨s0,s1⟩;go_simp;with_reducible rfl);rotate_left;(simp only [Act.put,List.setIfInBounds_toArray,List.set_cons_zero,List.set_cons_succ,i64_w,i32_w];rfl)
    refine take_ (i:=8) (N:=some 48) (v:=?_) (a':=?_) #[true,true,true,true,true,true,true,true,true,false,false] rfl rfl (by kernel_rfl) (fun _ _ _ h=>h) (Or.inl ⟨by rfl,?_⟩) hHeld ?_ ?_
    rotate_left;(rintro w' ⟨s0,s1⟩;go_simp;with_reducible rfl);rotate_left;(simp only [Act.put,List.setIfInBounds_toArray,List.set_cons_zero,List.set_cons_succ,i64_w,i32_w];rfl)
    refine one_ (i:=9) (N:=some 49) #[true,true,true,true,true,true,true,true,true,true,false] rfl rfl (by kernel_rfl) (by decide) (fun K hK=>?_)
    refine goesC_ Try.func25 (by kernel_rfl) rfl #[.slice Ax nx cx,.slice Ay ny cy,.pointer (some ⟨gs,0,none⟩)] (by rfl) rfl rfl rfl (by simp only [List.map_toArray,List.map_cons,List.map_nil];rfl) ?_
    with_reducible refine (HCM.out _ HS.out.drew).mono ?_
    rintro e w3 ⟨rfl,hb⟩
    refine ⟨_,rfl,?_⟩
    have HB:=Aside0.mk (below_step HD.out hb)
    have HS3:=Aside0.mk (HS.out.drew.step hb)
    clear hb
    refine hK.out _ _ ⟨((HB.out.cell (World.block_lt_of_cell? wr _ hcx)).trans hcx),((HB.out.cell (World.block_lt_of_cell? wr _ hcy)).trans hcy)⟩ (fun hHeld=>?_)
    clear hK K
    refine norm_ (a':=?_) ?_ ?_
    rotate_left
    ·show Act.put _ (some 49) _=_
     simp only [Act.put,List.setIfInBounds_toArray,List.set_cons_zero,List.set_cons_succ,i64_w,i32_w]
     rfl
    refine pure_ (i:=10) (N:=some 50) (v:=?_) (a':=?_) #[true,true,true,true,true,true,true,true,true,true,true] rfl rfl (by kernel_rfl) (fun _ _ _ h=>h) (Or.inl ⟨by rfl,?_⟩) ?_ ?_
    rotate_left;(intro w';go_simp;with_reducible rfl);rotate_left;(simp only [Act.put,List.setIfInBounds_toArray,List.set_cons_zero,List.set_cons_succ,i64_w,i32_w];rfl)
    refine done_ (by kernel_rfl) ?_
    clear hcx hcy HS HB HD HCM q0 q1 q2 q3
    go_wp2
    go_roundg (j - (h + 1))
    case measure=>have:=HK.out;have:=HH.out;omega
    case rel=>exact ⟨h + 1,j,by first|rfl|go_num,rfl,⟨by have:=HK.out;have:=HH.out;omega⟩,⟨by rw [HQ2.out,if_neg (by simp)];exact bsr_fuel P _ _ _ _ (by have:=HK.out;have:=HH.out;omega) (by omega)⟩,HS3⟩
   ·have c1 : decide (z < 0)=false:=decide_eq_false hlv
    rw [hPh,c1] at hq
    have HQ2:=Aside0.mk hq
    clear hq hPh hh hlv
    go_wp2_with fail
    refine start_ (n:=11) (S:=fun w'=>w'.cell? ⟨go,h,none⟩=some (.slice Ax nx cx)∧w'.cell? ⟨go,a,none⟩=some (.slice Ay ny cy)) (ds:=[]) #[false,false,false,false,false,false,false,false,false,false,false] (by kernel_rfl) rfl rfl ⟨hcx,hcy⟩ (fun hHeld=>?_)
    refine pure_ (i:=0) (N:=some 40) (v:=?_) (a':=?_) #[true,false,false,false,false,false,false,false,false,false,false] rfl rfl (by kernel_rfl) (fun _ _ _ h=>h) (Or.inl ⟨by rfl,?_⟩) ?_ ?_
    rotate_left;(intro w';go_simp;with_reducible rfl);rotate_left;(simp only [Act.put,List.setIfInBounds_toArray,List.set_cons_zero,List.set_cons_succ,i64_w,i32_w];rfl)
    refine pure_ (i:=1) (N:=some 41) (v:=?_) (a':=?_) #[true,true,false,false,false,false,false,false,false,false,false] rfl rfl (by kernel_rfl) (fun _ _ _ h=>h) (Or.inl ⟨by rfl,?_⟩) ?_ ?_
    rotate_left;(intro w';go_simp;with_reducible rfl);rotate_left;(simp only [Act.put,List.setIfInBounds_toArray,List.set_cons_zero,List.set_cons_succ,i64_w,i32_w];rfl)
    refine pure_ (i:=2) (N:=some 42) (v:=?_) (a':=?_) #[true,true,true,false,false,false,false,false,false,false,false] rfl rfl (by kernel_rfl) (fun _ _ _ h=>h) (Or.inl ⟨by rfl,?_⟩) ?_ ?_
    rotate_left;(intro w';go_simp;with_reducible rfl);rotate_left;(simp only [Act.put,List.setIfInBounds_toArray,List.set_cons_zero,List.set_cons_succ,i64_w,i32_w];rfl)
    refine pure_ (i:=3) (N:=some 43) (v:=?_) (a':=?_) #[true,true,true,true,false,false,false,false,false,false,false] rfl rfl (by kernel_rfl) (fun _ _ _ h=>h) (Or.inl ⟨by rfl,?_⟩) ?_ ?_
    rotate_left;(intro w';go_simp;with_reducible rfl);rotate_left;(simp only [Act.put,List.setIfInBounds_toArray,List.set_cons_zero,List.set_cons_succ,i64_w,i32_w];rfl)
    refine pure_ (i:=5) (N:=some 45) (v:=?_) (a':=?_) #[true,true,true,true,false,true,false,false,false,false,false] rfl rfl (by kernel_rfl) (fun _ _ _ h=>h) (Or.inl ⟨by rfl,?_⟩) ?_ ?_
    rotate_left;(intro w';go_simp;with_reducible rfl);rotate_left;(simp only [Act.put,List.setIfInBounds_toArray,List.set_cons_zero,List.set_cons_succ,i64_w,i32_w];rfl)
    refine pure_ (i:=6) (N:=some 46) (v:=?_) (a':=?_) #[true,true,true,true,false,true,true,false,false,false,false] rfl rfl (by kernel_rfl) (fun _ _ _ h=>h) (Or.inl ⟨by rfl,?_⟩) ?_ ?_
    rotate_left;(intro w';go_simp;with_reducible rfl);rotate_left;(simp only [Act.put,List.setIfInBounds_toArray,List.set_cons_zero,List.set_cons_succ,i64_w,i32_w];rfl)
    refine pure_ (i:=7) (N:=some 47) (v:=?_) (a':=?_) #[true,true,true,true,false,true,true,true,false,false,false] rfl rfl (by kernel_rfl) (fun _ _ _ h=>h) (Or.inl ⟨by rfl,?_⟩) ?_ ?_
    rotate_left;(intro w';go_simp;with_reducible rfl);rotate_left;(simp only [Act.put,List.setIfInBounds_toArray,List.set_cons_zero,List.set_cons_succ,i64_w,i32_w];rfl)
    refine take_ (i:=4) (N:=some 44) (v:=?_) (a':=?_) #[true,true,true,true,true,true,true,true,false,false,false] rfl rfl (by kernel_rfl) (fun _ _ _ h=>h) (Or.inl ⟨by rfl,?_⟩) hHeld ?_ ?_
    rotate_left;(rintro w' ⟨s0,s1⟩;go_simp;with_reducible rfl);rotate_left;(simp only [Act.put,List.setIfInBounds_toArray,List.set_cons_zero,List.set_cons_succ,i64_w,i32_w];rfl)
    refine take_ (i:=8) (N:=some 48) (v:=?_) (a':=?_) #[true,true,true,true,true,true,true,true,true,false,false] rfl rfl (by kernel_rfl) (fun _ _ _ h=>h) (Or.inl ⟨by rfl,?_⟩) hHeld ?_ ?_
    rotate_left;(rintro w' ⟨s0,s1⟩;go_simp;with_reducible rfl);rotate_left;(simp only [Act.put,List.setIfInBounds_toArray,List.set_cons_zero,List.set_cons_succ,i64_w,i32_w];rfl)
    refine one_ (i:=9) (N:=some 49) #[true,true,true,true,true,true,true,true,true,true,false] rfl rfl (by kernel_rfl) (by decide) (fun K hK=>?_)
    refine goesC_ Try.func25 (by kernel_rfl) rfl #[.slice Ax nx cx,.slice Ay ny cy,.pointer (some ⟨gs,0,none⟩)] (by rfl) rfl rfl rfl (by simp only [List.map_toArray,List.map_cons,List.map_nil];rfl) ?_
    with_reducible refine (HCM.out _ HS.out.drew).mono ?_
    rintro e w3 ⟨rfl,hb⟩
    refine ⟨_,rfl,?_⟩
    have HB:=Aside0.mk (below_step HD.out hb)
    have HS3:=Aside0.mk (HS.out.drew.step hb)
    clear hb
    refine hK.out _ _ ⟨((HB.out.cell (World.block_lt_of_cell? wr _ hcx)).trans hcx),((HB.out.cell (World.block_lt_of_cell? wr _ hcy)).trans hcy)⟩ (fun hHeld=>?_)
    clear hK K
    refine norm_ (a':=?_) ?_ ?_
    rotate_left
    ·show Act.put _ (some 49) _=_
     simp only [Act.put,List.setIfInBounds_toArray,List.set_cons_zero,List.set_cons_succ,i64_w,i32_w]
     rfl
    refine pure_ (i:=10) (N:=some 50) (v:=?_) (a':=?_) #[true,true,true,true,true,true,true,true,true,true,true] rfl rfl (by kernel_rfl) (fun _ _ _ h=>h) (Or.inl ⟨by rfl,?_⟩) ?_ ?_
    rotate_left;(intro w';go_simp;with_reducible rfl);rotate_left;(simp only [Act.put,List.setIfInBounds_toArray,List.set_cons_zero,List.set_cons_succ,i64_w,i32_w];rfl)
    refine done_ (by kernel_rfl) ?_
    clear hcx hcy HS HB HD HCM q0 q1 q2 q3
    go_wp2
    go_roundg (h - i)
    case measure=>have:=HK.out;have:=HH.out;omega
    case rel=>exact ⟨i,h,rfl,by first|rfl|go_num,⟨by have:=HK.out;have:=HH.out;omega⟩,⟨by rw [HQ2.out,if_pos (by simp)];exact bsr_fuel P _ _ _ _ (by have:=HK.out;have:=HH.out;omega) (by omega)⟩,HS3⟩
  ·have hltz : ¬ (i : Int) < (j : Int):=by omega
   have hq:=HQ.out
   rw [show j - i=0 by omega,bsr] at hq
   have HRI:=Aside0.mk hq
   have HKK:=Aside0.mk (show (a + 1)≤i∧i≤b by have:=HK.out;omega)
   clear hq HQ HK
   have hib : (i : Int)≤1000000000:=by have:=HKK.out;have:=HN.out;omega
   have hri:=HRI.out
   subst hri
   go_wp2
   go_loopg [13] (r - 1 - a) (fun gk v13 wr=>∃ (k : Nat) (q : List Nat),v13=.int .i64 k∧Aside0 (a≤k∧k + gk + 1=r∧q.length=n)∧Aside0 (SW0 w0 wr gs go cs V q)∧Aside0 (goUp 0 (r - 1 - a) a p=goUp 0 gk k q))
   case atStart=>exact ⟨a,p,rfl,⟨by have:=HKK.out;have:=HN.out;omega⟩,HS,⟨rfl⟩⟩
   case round =>
    clear HS
    obtain ⟨k,q,rfl,HK,HS,HE⟩:=hrel
    by_cases hkr : k + 1 < r
    ·have hkz : (k : Int) < (r : Int) - 1:=by omega
     obtain ⟨m1,hm1⟩ : ∃ m,gk=m + 1:=⟨gk - 1,by have:=HK.out;omega⟩
     have hE:=HE.out
     rw [hm1,goUp] at hE
     have HE2:=Aside0.mk hE
     have HM:=Aside0.mk hm1
     have hkn : k < q.length∧k + 1 < q.length:=by have:=HK.out;have:=HKK.out;have:=HN.out;omega
     have qx : ((k : Int) < (n : Int)):=by have:=HN.out;have:=HKK.out;omega
     have qy : ((k : Int) + 1 < (n : Int)):=by have:=HN.out;have:=HKK.out;omega
     clear hE HE hm1 hkr
     obtain ⟨Ax,nx,cx,hvx⟩:=HV1.out (gt_ 0 q k)
     obtain ⟨Ay,ny,cy,hvy⟩:=HV1.out (gt_ 0 q (k + 1))
     have hfx:=HS.out.frozen k
     have hfy:=HS.out.frozen (k + 1)
     have hcx : wr.cell? ⟨go,k,none⟩=some (.slice Ax nx cx):=by rw [← hvx];exact HS.out.cell k hkn.1
     have hcy : wr.cell? ⟨go,(k + 1),none⟩=some (.slice Ay ny cy):=by rw [← hvy];exact HS.out.cell (k + 1) hkn.2
     obtain ⟨u,hu⟩ : ∃ u,(wr.setCell ⟨go,k,none⟩ (.slice Ay ny cy)).cell? ⟨go,(k + 1),none⟩=some u:=by rw [← hvy];exact HS.out.cell2 k (k + 1) _ hkn.2
     have S3:=Aside0.mk (show SW0 w0 ((wr.setCell ⟨go,k,none⟩ (.slice Ay ny cy)).setCell ⟨go,(k + 1),none⟩ (.slice Ax nx cx)).drew gs go cs V (swp 0 q k (k + 1)) by rw [← hvx,← hvy];exact HS.out.swap k (k + 1))
     clear hvx hvy HS hkn
     go_wp2_with fail
     go_big_region_o
     clear hcx hcy hfx hfy hu
     generalize ((wr.setCell ⟨go,k,none⟩ (.slice Ay ny cy)).setCell ⟨go,(k + 1),none⟩ (.slice Ax nx cx)).drew=w4 at S3 ⊢
     go_wp2
     go_roundg m1
     case measure=>have:=HM.out;omega
     case rel=>exact ⟨k + 1,_,by first|rfl|go_num,⟨by have:=HK.out;have:=HM.out;rw [swp_length];omega⟩,S3,HE2⟩
    ·have hkz : ¬ (k : Int) < (r : Int) - 1:=by omega
     have hE:=HE.out
     rw [show gk=0 by have:=HK.out;omega,goUp] at hE
     have HE2:=Aside0.mk hE
     clear hE HE
     go_wp2
     (try simp only [Exit.inBlock,Exit.then])
     refine bodyPost_ret (results_none rfl _ _ _) rfl ?_
     exact ⟨rfl,by rw [HE2.out];exact HS.out⟩
set_option maxHeartbeats 8000000 in
set_option maxRecDepth 100000 in
theorem symLast_any (w0 : World) (gs go : Nat) (cs : Array Value) (V : Nat→Value) (hV1 : ∀ i,∃ A n c,V i=.slice A n c) (cf : Nat→Nat→Int) (hC : CmpOk w0 gs go cs V cf) (n cap : Nat) (hn : n≤1000000000) (f a m b : Nat) (p : List Nat) (w : World) (hS : SW0 w0 w gs go cs V p) (hp : p.length=n) (hab : a < m) (hmb : m < b) (hb : b≤n) (h0 : ¬ m - a=1) (h1 : b - m=1) :
  Calls Try.prog 38 #[.slice (some ⟨go,0,none⟩) n cap,.int .i64 a,.int .i64 m,.int .i64 b,FV gs] w fun e w'=>e=.returned (.tuple #[])∧SW0 w0 w' gs go cs V (symM 0 (ltC cf) (f + 1) a m b p):=by
 unfold FV
 have mixed : Try.prog.follows Departure.mixedOrders=true:=rfl
 have HS:=Aside0.mk hS
 have HV1:=Aside0.mk hV1
 have HC:=Aside0.mk hC
 have HN:=Aside0.mk (And.intro hp (And.intro hab (And.intro hmb (And.intro hb hn))))
 clear hS hV1 hC
 unfold symM
 rw [if_neg h0,if_pos h1]
 dsimp only
 obtain rfl : b=m + 1:=by omega
 have c0 : ((m : Int) - (a : Int) == 1)=false:=by rw [beq_eq_false_iff_ne];omega
 have c00 : ((m : Int) + 1 - (m : Int) == 1)=true:=by rw [beq_iff_eq];omega
 clear h0 h1
 obtain ⟨P,hP⟩ : ∃ P : Nat→Bool,P=fun h=>ltC cf (gt_ 0 p m) (gt_ 0 p h):=⟨_,rfl⟩
 obtain ⟨r,hr⟩ : ∃ r,r=bsr P (m - a) a m:=⟨_,rfl⟩
 have HP:=Aside0.mk hP
 have HR:=Aside0.mk hr
 clear hP hr
 have HG:=Aside0.mk (show goDn 0 (m - bsr (fun h=>ltC cf (gt_ 0 p m) (gt_ 0 p h)) (m - a) a m) m p=goDn 0 (m - r) m p by rw [HR.out,HP.out])
 rw [HG.out]
 clear HG
 go_enter Try.func38,Try.ntmps38
 go_wp2
 go_loopg [14,15] (m - a) (fun gk v10 v11 wr=>∃ (i j : Nat),v10=.int .i64 i∧v11=.int .i64 j∧Aside0 (a≤i∧i≤j∧j≤m∧j - i≤gk)∧Aside0 (r=bsr P (j - i) i j)∧Aside0 (SW0 w0 wr gs go cs V p))
 case atStart=>exact ⟨a,m,by first|rfl|go_num|(congr 1;done)|(congr 1;omega),by first|rfl|go_num|(congr 1;done)|(congr 1;omega),⟨by omega⟩,HR,HS⟩
 case round =>
  clear HS
  obtain ⟨i,j,rfl,rfl,HK,HQ,HS⟩:=hrel
  by_cases hlt : i < j
  ·have hltz : (i : Int) < (j : Int):=by omega
   have hjb : (j : Int)≤1000000000:=by have:=HK.out;have:=HN.out;omega
   obtain ⟨h,hh⟩ : ∃ h,h=(i + j) / 2:=⟨_,rfl⟩
   have eh : ((i : Int) + (j : Int)) / 2=(h : Int):=by omega
   have hq:=HQ.out
   rw [show j - i=(j - i - 1) + 1 by omega,bsr,if_pos hlt,← hh] at hq
   have HH:=Aside0.mk (show i≤h∧h < j by omega)
   obtain ⟨Ax,nx,cx,hvx⟩:=HV1.out (gt_ 0 p m)
   obtain ⟨Ay,ny,cy,hvy⟩:=HV1.out (gt_ 0 p h)
   obtain ⟨z,hz⟩ : ∃ z,z=cf (gt_ 0 p m) (gt_ 0 p h):=⟨_,rfl⟩
   have hcm : ∀ W,SW0 w0 W gs go cs V p→Calls Try.prog 25 #[.slice Ax nx cx,.slice Ay ny cy,.pointer (some ⟨gs,0,none⟩)] W fun e w'=>e=.returned (.int .i64 z)∧Below W.heap.size W w':=fun W h=>by
    rw [← hvx,← hvy,hz];exact HC.out W p h _ _
   have HCM:=Aside0.mk hcm
   have hpl : m < p.length∧h < p.length:=by have:=HK.out;have:=HH.out;have:=HN.out;omega
   have hcx : wr.cell? ⟨go,m,none⟩=some (.slice Ax nx cx):=by rw [← hvx];exact HS.out.cell m hpl.1
   have hcy : wr.cell? ⟨go,h,none⟩=some (.slice Ay ny cy):=by rw [← hvy];exact HS.out.cell h hpl.2
   have q0 : (0≤(m : Int))=True:=eq_true (by omega)
   have q1 : ((m : Int) < (n : Int))=True:=eq_true (by have:=HN.out;omega)
   have q2 : (0≤(h : Int))=True:=eq_true (by omega)
   have q3 : ((h : Int) < (n : Int))=True:=eq_true (by have:=HN.out;omega)
   have HD:=Aside0.mk (below_drew1 (Below.refl wr.heap.size wr))
   have hPh : P h=decide (z < 0):=by rw [HP.out,hz];rfl
   clear hcm hpl hlt hvx hvy hz
   by_cases hlv : z < 0
   ·have c1 : decide (z < 0)=true:=decide_eq_true hlv
    rw [hPh,c1] at hq
    have HQ2:=Aside0.mk hq
    clear hq hPh hh hlv
    go_wp2_with fail
    refine start_ (n:=12) (S:=fun w'=>w'.cell? ⟨go,m,none⟩=some (.slice Ax nx cx)∧w'.cell? ⟨go,h,none⟩=some (.slice Ay ny cy)) (ds:=[]) #[false,false,false,false,false,false,false,false,false,false,false,false] (by kernel_rfl) rfl rfl ⟨hcx,hcy⟩ (fun hHeld=>?_)
    refine pure_ (i:=0) (N:=some 92) (v:=?_) (a':=?_) #[true,false,false,false,false,false,false,false,false,false,false,false] rfl rfl (by kernel_rfl) (fun _ _ _ h=>h) (Or.inl ⟨by rfl,?_⟩) ?_ ?_
    rotate_left;(intro w';go_simp;with_reducible rfl);rotate_left;(simp only [Act.put,List.setIfInBounds_toArray,List.set_cons_zero,List.set_cons_succ,i64_w,i32_w];rfl)
    refine pure_ (i:=1) (N:=some 93) (v:=?_) (a':=?_) #[true,true,false,false,false,false,false,false,false,false,false,false] rfl rfl (by kernel_rfl) (fun _ _ _ h=>h) (Or.inl ⟨by rfl,?_⟩) ?_ ?_
    rotate_left;(intro w';go_simp;with_reducible rfl);rotate_left;(simp only [Act.put,List.setIfInBounds_toArray,List.set_cons_zero,List.set_cons_succ,i64_w,i32_w];rfl)
    refine pure_ (i:=2) (N:=some 94) (v:=?_) (a':=?_) #[true,true,true,false,false,false,false,false,false,false,false,false] rfl rfl (by kernel_rfl) (fun _ _ _ h=>h) (Or.inl ⟨by rfl,?_⟩) ?_ ?_
    rotate_left;(intro w';go_simp;with_reducible rfl);rotate_left;(simp only [Act.put,List.setIfInBounds_toArray,List.set_cons_zero,List.set_cons_succ,i64_w,i32_w];rfl)
    refine pure_ (i:=3) (N:=some 95) (v:=?_) (a':=?_) #[true,true,true,true,false,false,false,false,false,false,false,false] rfl rfl (by kernel_rfl) (fun _ _ _ h=>h) (Or.inl ⟨by rfl,?_⟩) ?_ ?_
    rotate_left;(intro w';go_simp;with_reducible rfl);rotate_left;(simp only [Act.put,List.setIfInBounds_toArray,List.set_cons_zero,List.set_cons_succ,i64_w,i32_w];rfl)
    refine pure_ (i:=5) (N:=some 97) (v:=?_) (a':=?_) #[true,true,true,true,false,true,false,false,false,false,false,false] rfl rfl (by kernel_rfl) (fun _ _ _ h=>h) (Or.inl ⟨by rfl,?_⟩) ?_ ?_
    rotate_left;(intro w';go_simp;with_reducible rfl);rotate_left;(simp only [Act.put,List.setIfInBounds_toArray,List.set_cons_zero,List.set_cons_succ,i64_w,i32_w];rfl)
    refine pure_ (i:=6) (N:=some 98) (v:=?_) (a':=?_) #[true,true,true,true,false,true,true,false,false,false,false,false] rfl rfl (by kernel_rfl) (fun _ _ _ h=>h) (Or.inl ⟨by rfl,?_⟩) ?_ ?_
    rotate_left;(intro w';go_simp;with_reducible rfl);rotate_left;(simp only [Act.put,List.setIfInBounds_toArray,List.set_cons_zero,List.set_cons_succ,i64_w,i32_w];rfl)
    refine pure_ (i:=7) (N:=some 99) (v:=?_) (a':=?_) #[true,true,true,true,false,true,true,true,false,false,false,false] rfl rfl (by kernel_rfl) (fun _ _ _ h=>h) (Or.inl ⟨by rfl,?_⟩) ?_ ?_
    rotate_left;(intro w';go_simp;with_reducible rfl);rotate_left;(simp only [Act.put,List.setIfInBounds_toArray,List.set_cons_zero,List.set_cons_succ,i64_w,i32_w];rfl)
    refine take_ (i:=4) (N:=some 96) (v:=?_) (a':=?_) #[true,true,true,true,true,true,true,true,false,false,false,false] rfl rfl (by kernel_rfl) (fun _ _ _ h=>h) (Or.inl ⟨by rfl,?_⟩) hHeld ?_ ?_
    rotate_left;(rintro w' ⟨s0,s1⟩;go_simp;with_reducible rfl);rotate_left;(simp only [Act.put,List.setIfInBounds_toArray,List.set_cons_zero,List.set_cons_succ,i64_w,i32_w];rfl)
    refine take_ (i:=8) (N:=some 100) (v:=?_) (a':=?_) #[true,true,true,true,true,true,true,true,true,false,false,false] rfl rfl (by kernel_rfl) (fun _ _ _ h=>h) (Or.inl ⟨by rfl,?_⟩) hHeld ?_ ?_
    rotate_left;(rintro w' ⟨s0,s1⟩;go_simp;with_reducible rfl);rotate_left;(simp only [Act.put,List.setIfInBounds_toArray,List.set_cons_zero,List.set_cons_succ,i64_w,i32_w];rfl)
    refine one_ (i:=9) (N:=some 101) #[true,true,true,true,true,true,true,true,true,true,false,false] rfl rfl (by kernel_rfl) (by decide) (fun K hK=>?_)
    refine goesC_ Try.func25 (by kernel_rfl) rfl #[.slice Ax nx cx,.slice Ay ny cy,.pointer (some ⟨gs,0,none⟩)] (by rfl) rfl rfl rfl (by simp only [List.map_toArray,List.map_cons,List.map_nil];rfl) ?_
    with_reducible refine (HCM.out _ HS.out.drew).mono ?_
    rintro e w3 ⟨rfl,hb⟩
    refine ⟨_,rfl,?_⟩
    have HB:=Aside0.mk (below_step HD.out hb)
    have HS3:=Aside0.mk (HS.out.drew.step hb)
    clear hb
    refine hK.out _ _ ⟨((HB.out.cell (World.block_lt_of_cell? wr _ hcx)).trans hcx),((HB.out.cell (World.block_lt_of_cell? wr _ hcy)).trans hcy)⟩ (fun hHeld=>?_)
    clear hK K
    refine norm_ (a':=?_) ?_ ?_
    rotate_left
    ·show Act.put _ (some 101) _=_
     simp only [Act.put,List.setIfInBounds_toArray,List.set_cons_zero,List.set_cons_succ,i64_w,i32_w]
     rfl
    refine pure_ (i:=10) (N:=some 102) (v:=?_) (a':=?_) #[true,true,true,true,true,true,true,true,true,true,true,false] rfl rfl (by kernel_rfl) (fun _ _ _ h=>h) (Or.inl ⟨by rfl,?_⟩) ?_ ?_
    rotate_left;(intro w';go_simp;with_reducible rfl);rotate_left;(simp only [Act.put,List.setIfInBounds_toArray,List.set_cons_zero,List.set_cons_succ,i64_w,i32_w];rfl)
    refine pure_ (i:=11) (N:=some 103) (v:=?_) (a':=?_) #[true,true,true,true,true,true,true,true,true,true,true,true] rfl rfl (by kernel_rfl) (fun _ _ _ h=>h) (Or.inl ⟨by rfl,?_⟩) ?_ ?_
    rotate_left;(intro w';go_simp;with_reducible rfl);rotate_left;(simp only [Act.put,List.setIfInBounds_toArray,List.set_cons_zero,List.set_cons_succ,i64_w,i32_w];rfl)
    refine done_ (by kernel_rfl) ?_
    clear hcx hcy HS HB HD HCM q0 q1 q2 q3
    go_wp2
    go_roundg (h - i)
    case measure=>have:=HK.out;have:=HH.out;omega
    case rel=>exact ⟨i,h,rfl,by first|rfl|go_num,⟨by have:=HK.out;have:=HH.out;omega⟩,⟨by rw [HQ2.out,if_pos (by simp)];exact bsr_fuel P _ _ _ _ (by have:=HK.out;have:=HH.out;omega) (by omega)⟩,HS3⟩
   ·have c1 : decide (z < 0)=false:=decide_eq_false hlv
    rw [hPh,c1] at hq
    have HQ2:=Aside0.mk hq
    clear hq hPh hh hlv
    go_wp2_with fail
    refine start_ (n:=12) (S:=fun w'=>w'.cell? ⟨go,m,none⟩=some (.slice Ax nx cx)∧w'.cell? ⟨go,h,none⟩=some (.slice Ay ny cy)) (ds:=[]) #[false,false,false,false,false,false,false,false,false,false,false,false] (by kernel_rfl) rfl rfl ⟨hcx,hcy⟩ (fun hHeld=>?_)
    refine pure_ (i:=0) (N:=some 92) (v:=?_) (a':=?_) #[true,false,false,false,false,false,false,false,false,false,false,false] rfl rfl (by kernel_rfl) (fun _ _ _ h=>h) (Or.inl ⟨by rfl,?_⟩) ?_ ?_
    rotate_left;(intro w';go_simp;with_reducible rfl);rotate_left;(simp only [Act.put,List.setIfInBounds_toArray,List.set_cons_zero,List.set_cons_succ,i64_w,i32_w];rfl)
    refine pure_ (i:=1) (N:=some 93) (v:=?_) (a':=?_) #[true,true,false,false,false,false,false,false,false,false,false,false] rfl rfl (by kernel_rfl) (fun _ _ _ h=>h) (Or.inl ⟨by rfl,?_⟩) ?_ ?_
    rotate_left;(intro w';go_simp;with_reducible rfl);rotate_left;(simp only [Act.put,List.setIfInBounds_toArray,List.set_cons_zero,List.set_cons_succ,i64_w,i32_w];rfl)
    refine pure_ (i:=2) (N:=some 94) (v:=?_) (a':=?_) #[true,true,true,false,false,false,false,false,false,false,false,false] rfl rfl (by kernel_rfl) (fun _ _ _ h=>h) (Or.inl ⟨by rfl,?_⟩) ?_ ?_
    rotate_left;(intro w';go_simp;with_reducible rfl);rotate_left;(simp only [Act.put,List.setIfInBounds_toArray,List.set_cons_zero,List.set_cons_succ,i64_w,i32_w];rfl)
    refine pure_ (i:=3) (N:=some 95) (v:=?_) (a':=?_) #[true,true,true,true,false,false,false,false,false,false,false,false] rfl rfl (by kernel_rfl) (fun _ _ _ h=>h) (Or.inl ⟨by rfl,?_⟩) ?_ ?_
    rotate_left;(intro w';go_simp;with_reducible rfl);rotate_left;(simp only [Act.put,List.setIfInBounds_toArray,List.set_cons_zero,List.set_cons_succ,i64_w,i32_w];rfl)
    refine pure_ (i:=5) (N:=some 97) (v:=?_) (a':=?_) #[true,true,true,true,false,true,false,false,false,false,false,false] rfl rfl (by kernel_rfl) (fun _ _ _ h=>h) (Or.inl ⟨by rfl,?_⟩) ?_ ?_
    rotate_left;(intro w';go_simp;with_reducible rfl);rotate_left;(simp only [Act.put,List.setIfInBounds_toArray,List.set_cons_zero,List.set_cons_succ,i64_w,i32_w];rfl)
    refine pure_ (i:=6) (N:=some 98) (v:=?_) (a':=?_) #[true,true,true,true,false,true,true,false,false,false,false,false] rfl rfl (by kernel_rfl) (fun _ _ _ h=>h) (Or.inl ⟨by rfl,?_⟩) ?_ ?_
    rotate_left;(intro w';go_simp;with_reducible rfl);rotate_left;(simp only [Act.put,List.setIfInBounds_toArray,List.set_cons_zero,List.set_cons_succ,i64_w,i32_w];rfl)
    refine pure_ (i:=7) (N:=some 99) (v:=?_) (a':=?_) #[true,true,true,true,false,true,true,true,false,false,false,false] rfl rfl (by kernel_rfl) (fun _ _ _ h=>h) (Or.inl ⟨by rfl,?_⟩) ?_ ?_
    rotate_left;(intro w';go_simp;with_reducible rfl);rotate_left;(simp only [Act.put,List.setIfInBounds_toArray,List.set_cons_zero,List.set_cons_succ,i64_w,i32_w];rfl)
    refine take_ (i:=4) (N:=some 96) (v:=?_) (a':=?_) #[true,true,true,true,true,true,true,true,false,false,false,false] rfl rfl (by kernel_rfl) (fun _ _ _ h=>h) (Or.inl ⟨by rfl,?_⟩) hHeld ?_ ?_
    rotate_left;(rintro w' ⟨s0,s1⟩;go_simp;with_reducible rfl);rotate_left;(simp only [Act.put,List.setIfInBounds_toArray,List.set_cons_zero,List.set_cons_succ,i64_w,i32_w];rfl)
    refine take_ (i:=8) (N:=some 100) (v:=?_) (a':=?_) #[true,true,true,true,true,true,true,true,true,false,false,false] rfl rfl (by kernel_rfl) (fun _ _ _ h=>h) (Or.inl ⟨by rfl,?_⟩) hHeld ?_ ?_
    rotate_left;(rintro w' ⟨s0,s1⟩;go_simp;with_reducible rfl);rotate_left;(simp only [Act.put,List.setIfInBounds_toArray,List.set_cons_zero,List.set_cons_succ,i64_w,i32_w];rfl)
    refine one_ (i:=9) (N:=some 101) #[true,true,true,true,true,true,true,true,true,true,false,false] rfl rfl (by kernel_rfl) (by decide) (fun K hK=>?_)
    refine goesC_ Try.func25 (by kernel_rfl) rfl #[.slice Ax nx cx,.slice Ay ny cy,.pointer (some ⟨gs,0,none⟩)] (by rfl) rfl rfl rfl (by simp only [List.map_toArray,List.map_cons,List.map_nil];rfl) ?_
    with_reducible refine (HCM.out _ HS.out.drew).mono ?_
    rintro e w3 ⟨rfl,hb⟩
    refine ⟨_,rfl,?_⟩
    have HB:=Aside0.mk (below_step HD.out hb)
    have HS3:=Aside0.mk (HS.out.drew.step hb)
    clear hb
    refine hK.out _ _ ⟨((HB.out.cell (World.block_lt_of_cell? wr _ hcx)).trans hcx),((HB.out.cell (World.block_lt_of_cell? wr _ hcy)).trans hcy)⟩ (fun hHeld=>?_)
    clear hK K
    refine norm_ (a':=?_) ?_ ?_
    rotate_left
    ·show Act.put _ (some 101) _=_
     simp only [Act.put,List.setIfInBounds_toArray,List.set_cons_zero,List.set_cons_succ,i64_w,i32_w]
     rfl
    refine pure_ (i:=10) (N:=some 102) (v:=?_) (a':=?_) #[true,true,true,true,true,true,true,true,true,true,true,false] rfl rfl (by kernel_rfl) (fun _ _ _ h=>h) (Or.inl ⟨by rfl,?_⟩) ?_ ?_
    rotate_left;(intro w';go_simp;with_reducible rfl);rotate_left;(simp only [Act.put,List.setIfInBounds_toArray,List.set_cons_zero,List.set_cons_succ,i64_w,i32_w];rfl)
    refine pure_ (i:=11) (N:=some 103) (v:=?_) (a':=?_) #[true,true,true,true,true,true,true,true,true,true,true,true] rfl rfl (by kernel_rfl) (fun _ _ _ h=>h) (Or.inl ⟨by rfl,?_⟩) ?_ ?_
    rotate_left;(intro w';go_simp;with_reducible rfl);rotate_left;(simp only [Act.put,List.setIfInBounds_toArray,List.set_cons_zero,List.set_cons_succ,i64_w,i32_w];rfl)
    refine done_ (by kernel_rfl) ?_
    clear hcx hcy HS HB HD HCM q0 q1 q2 q3
    go_wp2
    go_roundg (j - (h + 1))
    case measure=>have:=HK.out;have:=HH.out;omega
    case rel=>exact ⟨h + 1,j,by first|rfl|go_num,rfl,⟨by have:=HK.out;have:=HH.out;omega⟩,⟨by rw [HQ2.out,if_neg (by simp)];exact bsr_fuel P _ _ _ _ (by have:=HK.out;have:=HH.out;omega) (by omega)⟩,HS3⟩
  ·have hltz : ¬ (i : Int) < (j : Int):=by omega
   have hq:=HQ.out
   rw [show j - i=0 by omega,bsr] at hq
   have HRI:=Aside0.mk hq
   have HKK:=Aside0.mk (show a≤i∧i≤m by have:=HK.out;omega)
   clear hq HQ HK
   have hib : (i : Int)≤1000000000:=by have:=HKK.out;have:=HN.out;omega
   have hri:=HRI.out
   subst hri
   go_wp2
   go_loopg [17] (m - r) (fun gk v13 wr=>∃ (k : Nat) (q : List Nat),v13=.int .i64 k∧Aside0 (r≤k∧k≤m∧k=r + gk∧q.length=n)∧Aside0 (SW0 w0 wr gs go cs V q)∧Aside0 (goDn 0 (m - r) m p=goDn 0 gk k q))
   case atStart=>exact ⟨m,p,rfl,⟨by have:=HKK.out;have:=HN.out;omega⟩,HS,⟨rfl⟩⟩
   case round =>
    clear HS
    obtain ⟨k,q,rfl,HK,HS,HE⟩:=hrel
    by_cases hkr : r < k
    ·have hkz : (r : Int) < (k : Int):=by omega
     obtain ⟨m1,hm1⟩ : ∃ m,gk=m + 1:=⟨gk - 1,by have:=HK.out;omega⟩
     obtain ⟨kp,hkp⟩ : ∃ q,k=q + 1:=⟨k - 1,by omega⟩
     subst hkp
     have hE:=HE.out
     rw [hm1,goDn,Nat.add_sub_cancel] at hE
     have HE2:=Aside0.mk hE
     have HM:=Aside0.mk hm1
     have hkn : kp + 1 < q.length∧kp < q.length:=by have:=HK.out;have:=HKK.out;have:=HN.out;omega
     have qx : ((kp : Int) < (n : Int)):=by have:=HN.out;have:=HK.out;omega
     have qy : ((kp : Int) + 1 < (n : Int)):=by have:=HN.out;have:=HK.out;omega
     clear hE HE hm1 hkr
     obtain ⟨Ax,nx,cx,hvx⟩:=HV1.out (gt_ 0 q (kp + 1))
     obtain ⟨Ay,ny,cy,hvy⟩:=HV1.out (gt_ 0 q kp)
     have hfx:=HS.out.frozen (kp + 1)
     have hfy:=HS.out.frozen kp
     have hcx : wr.cell? ⟨go,(kp + 1),none⟩=some (.slice Ax nx cx):=by rw [← hvx];exact HS.out.cell (kp + 1) hkn.1
     have hcy : wr.cell? ⟨go,kp,none⟩=some (.slice Ay ny cy):=by rw [← hvy];exact HS.out.cell kp hkn.2
     obtain ⟨u,hu⟩ : ∃ u,(wr.setCell ⟨go,(kp + 1),none⟩ (.slice Ay ny cy)).cell? ⟨go,kp,none⟩=some u:=by rw [← hvy];exact HS.out.cell2 (kp + 1) kp _ hkn.2
     have S3:=Aside0.mk (show SW0 w0 ((wr.setCell ⟨go,(kp + 1),none⟩ (.slice Ay ny cy)).setCell ⟨go,kp,none⟩ (.slice Ax nx cx)).drew gs go cs V (swp 0 q (kp + 1) kp) by rw [← hvx,← hvy];exact HS.out.swap (kp + 1) kp)
     clear hvx hvy HS hkn
     go_wp2_with fail
     go_big_region_o
     clear hcx hcy hfx hfy hu
     generalize ((wr.setCell ⟨go,(kp + 1),none⟩ (.slice Ay ny cy)).setCell ⟨go,kp,none⟩ (.slice Ax nx cx)).drew=w4 at S3 ⊢
     go_wp2
     go_roundg m1
     case measure=>have:=HM.out;omega
     case rel=>exact ⟨kp,_,by first|rfl|go_num|(congr 1;done)|(congr 1;omega),⟨by have:=HK.out;have:=HM.out;rw [swp_length];omega⟩,S3,HE2⟩
    ·have hkz : ¬ (r : Int) < (k : Int):=by omega
     have hE:=HE.out
     rw [show gk=0 by have:=HK.out;omega,goDn] at hE
     have HE2:=Aside0.mk hE
     clear hE HE
     go_wp2
     (try simp only [Exit.inBlock,Exit.then])
     refine bodyPost_ret (results_none rfl _ _ _) rfl ?_
     exact ⟨rfl,by rw [HE2.out];exact HS.out⟩
def symTail (lt : Nat→Nat→Bool) (f a m b mid nn : Nat) (p : List Nat) (s : Nat) : List Nat :=
 let x1:=if s < m∧m < nn - s then rot 0 m (nn - s - s) (m - s) (nn - s - m) p else p
 let x2:=if a < s∧s < mid then symM 0 lt f a s mid x1 else x1
 if mid < nn - s∧nn - s < b then symM 0 lt f mid (nn - s) b x2 else x2
theorem symM_rec (lt : Nat→Nat→Bool) (f a m b : Nat) (p : List Nat) (h0 : ¬ m - a=1) (h1 : ¬ b - m=1) : symM 0 lt (f + 1) a m b p =
  symTail lt f a m b ((a + b) / 2) ((a + b) / 2 + m) p (bsr (fun c=>lt (gt_ 0 p ((a + b) / 2 + m - 1 - c)) (gt_ 0 p c)) ((if m > (a + b) / 2 then (a + b) / 2 else m) - (if m > (a + b) / 2 then (a + b) / 2 + m - b else a)) (if m > (a + b) / 2 then (a + b) / 2 + m - b else a) (if m > (a + b) / 2 then (a + b) / 2 else m)):=by
 rw [symM,if_neg h0,if_neg h1]
 rfl
theorem rotate_z (w0 : World) (gs go : Nat) (cs : Array Value) (V : Nat→Value) (hV1 : ∀ i,∃ A n c,V i=.slice A n c) (n cap a m b : Nat) (p : List Nat) (w : World) (hS : SW0 w0 w gs go cs V p) (az mz bz : Int) (h : p.length=n∧a < m∧m < b∧b≤n∧n≤1000000000∧az=a∧mz=m∧bz=b) :
  Calls Try.prog 44 #[.slice (some ⟨go,0,none⟩) n cap,.int .i64 az,.int .i64 mz,.int .i64 bz,.func (.func 25) #[] #[.pointer (some ⟨gs,0,none⟩)]] w fun e w'=>e=.returned (.tuple #[])∧SW0 w0 w' gs go cs V (rot 0 m (b - a) (m - a) (b - m) p):=by
 obtain ⟨h1,h2,h3,h4,h5,rfl,rfl,rfl⟩:=h
 exact rotate_any w0 gs go cs V hV1 n cap a m b p w hS h1 h2 h3 h4 h5
set_option maxHeartbeats 8000000 in
set_option maxRecDepth 100000 in
theorem symRec_any (w0 : World) (gs go : Nat) (cs : Array Value) (V : Nat→Value) (hV1 : ∀ i,∃ A n c,V i=.slice A n c) (cf : Nat→Nat→Int) (hC : CmpOk w0 gs go cs V cf) (n cap : Nat) (hn : n≤1000000000) (f a m b : Nat) (p : List Nat) (w : World) (hS : SW0 w0 w gs go cs V p) (hp : p.length=n) (hab : a < m) (hmb : m < b) (hb : b≤n) (h0 : ¬ m - a=1) (h1 : ¬ b - m=1) (hf : b - a≤f + 1) (ih : ∀ (a m b : Nat) (p : List Nat) (w : World),SW0 w0 w gs go cs V p→p.length=n→a < m→m < b→b≤n→b - a≤f→Calls Try.prog 38 #[.slice (some ⟨go,0,none⟩) n cap,.int .i64 a,.int .i64 m,.int .i64 b,FV gs] w fun e w'=>e=.returned (.tuple #[])∧SW0 w0 w' gs go cs V (symM 0 (ltC cf) f a m b p)) :
  Calls Try.prog 38 #[.slice (some ⟨go,0,none⟩) n cap,.int .i64 a,.int .i64 m,.int .i64 b,FV gs] w fun e w'=>e=.returned (.tuple #[])∧SW0 w0 w' gs go cs V (symM 0 (ltC cf) (f + 1) a m b p):=by
 unfold FV
 have mixed : Try.prog.follows Departure.mixedOrders=true:=rfl
 have HS:=Aside0.mk hS
 have HV1:=Aside0.mk hV1
 have HC:=Aside0.mk hC
 have HN:=Aside0.mk (And.intro hp (And.intro hab (And.intro hmb (And.intro hb hn))))
 clear hS hV1 hC
 rw [symM_rec _ _ _ _ _ _ h0 h1]
 obtain ⟨mid,hmid⟩ : ∃ mid,mid=(a + b) / 2:=⟨_,rfl⟩
 rw [← hmid]
 obtain ⟨nn,hnn⟩ : ∃ nn,nn=mid + m:=⟨_,rfl⟩
 rw [← hnn]
 obtain ⟨s0,hs0⟩ : ∃ s0,s0=if m > mid then nn - b else a:=⟨_,rfl⟩
 obtain ⟨r0,hr0⟩ : ∃ r0,r0=if m > mid then mid else m:=⟨_,rfl⟩
 rw [← hs0,← hr0]
 have HI : Aside0 (∀ (a m b : Nat) (p : List Nat) (w : World),SW0 w0 w gs go cs V p→∀ az mz bz : Int,(p.length=n∧a < m∧m < b∧b≤n∧b - a≤f∧az=a∧mz=m∧bz=b)→Calls Try.prog 38 #[.slice (some ⟨go,0,none⟩) n cap,.int .i64 az,.int .i64 mz,.int .i64 bz,.func (.func 25) #[] #[.pointer (some ⟨gs,0,none⟩)]] w fun e w'=>e=.returned (.tuple #[])∧SW0 w0 w' gs go cs V (symM 0 (ltC cf) f a m b p)):=⟨by
  rintro a m b p w h az mz bz ⟨h1,h2,h3,h4,h5,rfl,rfl,rfl⟩
  exact ih a m b p w h h1 h2 h3 h4 h5⟩
 have emid : ((a : Int) + (b : Int)) / 2=(mid : Int):=by omega
 have en : (mid : Int) + (m : Int)=(nn : Int):=by omega
 have c0 : ((m : Int) - (a : Int) == 1)=false:=by rw [beq_eq_false_iff_ne];omega
 have c00 : ((b : Int) - (m : Int) == 1)=false:=by rw [beq_eq_false_iff_ne];omega
 have hmb' : (mid : Int)≤1000000000:=by omega
 have hnb' : (nn : Int)≤2000000000:=by omega
 have HM:=Aside0.mk (show a + 2≤m∧m + 2≤b∧mid=(a + b) / 2∧nn=mid + m∧b - a≤f + 1 by omega)
 have HB0 : Aside0 (a≤s0∧s0≤r0∧r0≤m∧nn - r0 ≥ m∧nn - s0≤b∧r0≤mid∧s0≤nn):=⟨by
  by_cases q : m > mid
  ·rw [if_pos q] at hs0 hr0;omega
  ·rw [if_neg q] at hs0 hr0;omega⟩
 obtain ⟨pp,hpp⟩ : ∃ pp,pp=nn - 1:=⟨_,rfl⟩
 have ep : (nn : Int) - 1=(pp : Int):=by omega
 have HPP:=Aside0.mk hpp
 have HS0:=Aside0.mk hs0
 have HR0:=Aside0.mk hr0
 clear h0 h1 hf ih hmid hnn hs0 hr0 hpp
 obtain ⟨rr,hrr⟩ : ∃ rr,rr=bsr (fun c=>ltC cf (gt_ 0 p (nn - 1 - c)) (gt_ 0 p c)) (r0 - s0) s0 r0:=⟨_,rfl⟩
 rw [← hrr]
 have HRR:=Aside0.mk hrr
 clear hrr
 have HRB : Aside0 (s0≤rr∧rr≤r0):=⟨by rw [HRR.out];exact bsr_in _ _ _ _ HB0.out.2.1⟩
 obtain ⟨e,he⟩ : ∃ e,e=nn - rr:=⟨_,rfl⟩
 have ee : (nn : Int) - (rr : Int)=(e : Int):=by have:=HRB.out;have:=HB0.out;omega
 have HE:=Aside0.mk he
 have HG : Aside0 (symTail (ltC cf) f a m b mid nn p rr=(if mid < e∧e < b then symM 0 (ltC cf) f mid e b (if a < rr∧rr < mid then symM 0 (ltC cf) f a rr mid (if rr < m∧m < e then rot 0 m (e - rr) (m - rr) (e - m) p else p) else (if rr < m∧m < e then rot 0 m (e - rr) (m - rr) (e - m) p else p)) else (if a < rr∧rr < mid then symM 0 (ltC cf) f a rr mid (if rr < m∧m < e then rot 0 m (e - rr) (m - rr) (e - m) p else p) else (if rr < m∧m < e then rot 0 m (e - rr) (m - rr) (e - m) p else p)))):=⟨by rw [he];rfl⟩
 rw [HG.out]
 clear HG
 obtain ⟨x1,hx1⟩ : ∃ x1,x1=if rr < m∧m < e then rot 0 m (e - rr) (m - rr) (e - m) p else p:=⟨_,rfl⟩
 rw [← hx1]
 obtain ⟨x2,hx2⟩ : ∃ x2,x2=if a < rr∧rr < mid then symM 0 (ltC cf) f a rr mid x1 else x1:=⟨_,rfl⟩
 rw [← hx2]
 have HX1:=Aside0.mk hx1
 have HX2:=Aside0.mk hx2
 have HL1 : Aside0 (x1.length=n):=⟨by rw [hx1];split;rw [rot_length];exact HN.out.1;exact HN.out.1⟩
 have HL2 : Aside0 (x2.length=n):=⟨by rw [hx2];split;rw [symM_length];exact HL1.out;exact HL1.out⟩
 have herb : (e : Int)≤2000000000∧(rr : Int)≤2000000000:=by have:=HRB.out;have:=HB0.out;have:=HM.out;omega
 obtain ⟨heb,hrb⟩:=herb
 obtain ⟨fin,hfin⟩ : ∃ fin,fin=if mid < e∧e < b then symM 0 (ltC cf) f mid e b x2 else x2:=⟨_,rfl⟩
 rw [← hfin]
 have HFIN:=Aside0.mk hfin
 clear he hx1 hx2 hfin
 go_enter Try.func38,Try.ntmps38
 go_upto_if 140 with fail
 go_cut [20,21] (fun v20 v21 wc=>v20=.int .i64 s0∧v21=.int .i64 r0∧Aside0 (SW0 w0 wc gs go cs V p))
 case first =>
  by_cases q : m > mid
  ·have hs0:=HS0.out
   have hr0:=HR0.out
   rw [if_pos q] at hs0 hr0
   have cq : (mid : Int) < (m : Int):=by omega
   have es : (nn : Int) - (b : Int)=(s0 : Int):=by have:=HM.out;omega
   clear q
   subst hr0
   clear hs0
   go_wp2
   go_meet
   case rel=>exact ⟨by first|rfl|(congr 1;done)|(congr 1;omega),rfl,HS⟩
  ·have hs0:=HS0.out
   have hr0:=HR0.out
   rw [if_neg q] at hs0 hr0
   have cq : ¬ (mid : Int) < (m : Int):=by omega
   clear q
   subst hs0 hr0
   go_wp2
   go_meet
   case rel=>exact ⟨rfl,rfl,HS⟩
 case rest=>as_aux_lemma =>
  clear HS HS0 HR0
  obtain ⟨rfl,rfl,HS⟩:=hcut
  go_upto_block 8 with fail
  go_cut [20,21] (fun v20 v21 wc=>v20=.int .i64 rr∧Aside0 (SW0 w0 wc gs go cs V p))
  case first =>
   obtain ⟨P,hP⟩ : ∃ P : Nat→Bool,P=fun c=>ltC cf (gt_ 0 p (nn - 1 - c)) (gt_ 0 p c):=⟨_,rfl⟩
   obtain ⟨r,hr⟩ : ∃ r,r=bsr P (r0 - s0) s0 r0:=⟨_,rfl⟩
   have HP:=Aside0.mk hP
   have HR:=Aside0.mk hr
   clear hP hr
   have hs0r : s0≤r0:=HB0.out.2.1
   have hr0b : (r0 : Int)≤1000000000:=by have:=HB0.out;have:=HN.out;omega
   go_wp2
   go_loopg [20,21] (r0 - s0) (fun gk v10 v11 wr=>∃ (i j : Nat),v10=.int .i64 i∧v11=.int .i64 j∧Aside0 (s0≤i∧i≤j∧j≤r0∧j - i≤gk)∧Aside0 (r=bsr P (j - i) i j)∧Aside0 (SW0 w0 wr gs go cs V p))
   case atStart=>exact ⟨s0,r0,by first|rfl|go_num|(congr 1;done)|(congr 1;omega),by first|rfl|go_num|(congr 1;done)|(congr 1;omega),⟨by omega⟩,HR,HS⟩
   case round =>
    clear HS
    obtain ⟨i,j,rfl,rfl,HK,HQ,HS⟩:=hrel
    by_cases hlt : i < j
    ·have hltz : (i : Int) < (j : Int):=by omega
     have hjb : (j : Int)≤1000000000:=by have:=HK.out;have:=HN.out;omega
     obtain ⟨h,hh⟩ : ∃ h,h=(i + j) / 2:=⟨_,rfl⟩
     have eh : ((i : Int) + (j : Int)) / 2=(h : Int):=by omega
     have hq:=HQ.out
     rw [show j - i=(j - i - 1) + 1 by omega,bsr,if_pos hlt,← hh] at hq
     have HH:=Aside0.mk (show i≤h∧h < j by omega)
     obtain ⟨px,hpx⟩ : ∃ px,px=nn - 1 - h:=⟨_,rfl⟩
     have hpb : px < b∧h≤pp∧h < m:=by have:=HK.out;have:=HH.out;have:=HN.out;have:=HM.out;have:=HB0.out;have:=HPP.out;omega
     have ew : wrap64 ((pp : Int) - (h : Int))=(px : Int):=by have:=HPP.out;rw [w64 (by omega) (by have:=HN.out;omega)];omega
     obtain ⟨Ax,nx,cx,hvx⟩:=HV1.out (gt_ 0 p px)
     obtain ⟨Ay,ny,cy,hvy⟩:=HV1.out (gt_ 0 p h)
     obtain ⟨z,hz⟩ : ∃ z,z=cf (gt_ 0 p px) (gt_ 0 p h):=⟨_,rfl⟩
     have hcm : ∀ W,SW0 w0 W gs go cs V p→Calls Try.prog 25 #[.slice Ax nx cx,.slice Ay ny cy,.pointer (some ⟨gs,0,none⟩)] W fun e w'=>e=.returned (.int .i64 z)∧Below W.heap.size W w':=fun W h=>by
      rw [← hvx,← hvy,hz];exact HC.out W p h _ _
     have HCM:=Aside0.mk hcm
     have hpl : px < p.length∧h < p.length:=by have:=HK.out;have:=HH.out;have:=HN.out;omega
     have hcx : wr.cell? ⟨go,px,none⟩=some (.slice Ax nx cx):=by rw [← hvx];exact HS.out.cell px hpl.1
     have hcy : wr.cell? ⟨go,h,none⟩=some (.slice Ay ny cy):=by rw [← hvy];exact HS.out.cell h hpl.2
     have q0 : (0≤(px : Int))=True:=eq_true (by omega)
     have q1 : ((px : Int) < (n : Int))=True:=eq_true (by have:=HN.out;omega)
     have q2 : (0≤(h : Int))=True:=eq_true (by omega)
     have q3 : ((h : Int) < (n : Int))=True:=eq_true (by have:=HN.out;omega)
     have HD:=Aside0.mk (below_drew1 (Below.refl wr.heap.size wr))
     have hPh : P h=decide (z < 0):=by rw [HP.out,hz];rw [hpx];rfl
     clear hcm hpl hlt hvx hvy hz hpx hpb
     by_cases hlv : z < 0
     ·have c1 : decide (z < 0)=true:=decide_eq_true hlv
      rw [hPh,c1] at hq
      have HQ2:=Aside0.mk hq
      clear hq hPh hh hlv
      go_wp2_with fail
      refine start_ (n:=14) (S:=fun w'=>w'.cell? ⟨go,px,none⟩=some (.slice Ax nx cx)∧w'.cell? ⟨go,h,none⟩=some (.slice Ay ny cy)) (ds:=[]) #[false,false,false,false,false,false,false,false,false,false,false,false,false,false] (by kernel_rfl) rfl rfl ⟨hcx,hcy⟩ (fun hHeld=>?_)
      refine pure_ (i:=0) (N:=some 158) (v:=?_) (a':=?_) #[true,false,false,false,false,false,false,false,false,false,false,false,false,false] rfl rfl (by kernel_rfl) (fun _ _ _ h=>h) (Or.inl ⟨by rfl,?_⟩) ?_ ?_
      rotate_left;(intro w';go_simp;with_reducible rfl);rotate_left;(simp only [Act.put,List.setIfInBounds_toArray,List.set_cons_zero,List.set_cons_succ,i64_w,i32_w];rfl)
      refine pure_ (i:=1) (N:=some 159) (v:=?_) (a':=?_) #[true,true,false,false,false,false,false,false,false,false,false,false,false,false] rfl rfl (by kernel_rfl) (fun _ _ _ h=>h) (Or.inl ⟨by rfl,?_⟩) ?_ ?_
      rotate_left;(intro w';go_simp;with_reducible rfl);rotate_left;(simp only [Act.put,List.setIfInBounds_toArray,List.set_cons_zero,List.set_cons_succ,i64_w,i32_w];rfl)
      refine pure_ (i:=2) (N:=some 160) (v:=?_) (a':=?_) #[true,true,true,false,false,false,false,false,false,false,false,false,false,false] rfl rfl (by kernel_rfl) (fun _ _ _ h=>h) (Or.inl ⟨by rfl,?_⟩) ?_ ?_
      rotate_left;(intro w';go_simp;with_reducible rfl);rotate_left;(simp only [Act.put,List.setIfInBounds_toArray,List.set_cons_zero,List.set_cons_succ,i64_w,i32_w];rfl)
      refine pure_ (i:=3) (N:=some 161) (v:=?_) (a':=?_) #[true,true,true,true,false,false,false,false,false,false,false,false,false,false] rfl rfl (by kernel_rfl) (fun _ _ _ h=>h) (Or.inl ⟨by rfl,?_⟩) ?_ ?_
      rotate_left;(intro w';go_simp;with_reducible rfl);rotate_left;(simp only [Act.put,List.setIfInBounds_toArray,List.set_cons_zero,List.set_cons_succ,i64_w,i32_w];rfl)
      refine pure_ (i:=4) (N:=some 162) (v:=?_) (a':=?_) #[true,true,true,true,true,false,false,false,false,false,false,false,false,false] rfl rfl (by kernel_rfl) (fun _ _ _ h=>h) (Or.inl ⟨by rfl,?_⟩) ?_ ?_
      rotate_left;(intro w';go_simp;with_reducible rfl);rotate_left;(simp only [Act.put,List.setIfInBounds_toArray,List.set_cons_zero,List.set_cons_succ,i64_w,i32_w];rfl)
      refine pure_ (i:=5) (N:=some 163) (v:=?_) (a':=?_) #[true,true,true,true,true,true,false,false,false,false,false,false,false,false] rfl rfl (by kernel_rfl) (fun _ _ _ h=>h) (Or.inl ⟨by rfl,?_⟩) ?_ ?_
      rotate_left;(intro w';go_simp;with_reducible rfl);rotate_left;(simp only [Act.put,List.setIfInBounds_toArray,List.set_cons_zero,List.set_cons_succ,i64_w,i32_w];rfl)
      refine pure_ (i:=7) (N:=some 165) (v:=?_) (a':=?_) #[true,true,true,true,true,true,false,true,false,false,false,false,false,false] rfl rfl (by kernel_rfl) (fun _ _ _ h=>h) (Or.inl ⟨by rfl,?_⟩) ?_ ?_
      rotate_left;(intro w';go_simp;with_reducible rfl);rotate_left;(simp only [Act.put,List.setIfInBounds_toArray,List.set_cons_zero,List.set_cons_succ,i64_w,i32_w];rfl)
      refine pure_ (i:=8) (N:=some 166) (v:=?_) (a':=?_) #[true,true,true,true,true,true,false,true,true,false,false,false,false,false] rfl rfl (by kernel_rfl) (fun _ _ _ h=>h) (Or.inl ⟨by rfl,?_⟩) ?_ ?_
      rotate_left;(intro w';go_simp;with_reducible rfl);rotate_left;(simp only [Act.put,List.setIfInBounds_toArray,List.set_cons_zero,List.set_cons_succ,i64_w,i32_w];rfl)
      refine pure_ (i:=9) (N:=some 167) (v:=?_) (a':=?_) #[true,true,true,true,true,true,false,true,true,true,false,false,false,false] rfl rfl (by kernel_rfl) (fun _ _ _ h=>h) (Or.inl ⟨by rfl,?_⟩) ?_ ?_
      rotate_left;(intro w';go_simp;with_reducible rfl);rotate_left;(simp only [Act.put,List.setIfInBounds_toArray,List.set_cons_zero,List.set_cons_succ,i64_w,i32_w];rfl)
      refine take_ (i:=6) (N:=some 164) (v:=?_) (a':=?_) #[true,true,true,true,true,true,true,true,true,true,false,false,false,false] rfl rfl (by kernel_rfl) (fun _ _ _ h=>h) (Or.inl ⟨by rfl,?_⟩) hHeld ?_ ?_
      rotate_left;(rintro w' ⟨s0,s1⟩;go_simp;with_reducible rfl);rotate_left;(simp only [Act.put,List.setIfInBounds_toArray,List.set_cons_zero,List.set_cons_succ,i64_w,i32_w];rfl)
      refine take_ (i:=10) (N:=some 168) (v:=?_) (a':=?_) #[true,true,true,true,true,true,true,true,true,true,true,false,false,false] rfl rfl (by kernel_rfl) (fun _ _ _ h=>h) (Or.inl ⟨by rfl,?_⟩) hHeld ?_ ?_
      rotate_left;(rintro w' ⟨s0,s1⟩;go_simp;with_reducible rfl);rotate_left;(simp only [Act.put,List.setIfInBounds_toArray,List.set_cons_zero,List.set_cons_succ,i64_w,i32_w];rfl)
      refine one_ (i:=11) (N:=some 169) #[true,true,true,true,true,true,true,true,true,true,true,true,false,false] rfl rfl (by kernel_rfl) (by decide) (fun K hK=>?_)
      refine goesC_ Try.func25 (by kernel_rfl) rfl #[.slice Ax nx cx,.slice Ay ny cy,.pointer (some ⟨gs,0,none⟩)] (by rfl) rfl rfl rfl (by simp only [List.map_toArray,List.map_cons,List.map_nil];rfl) ?_
      with_reducible refine (HCM.out _ HS.out.drew).mono ?_
      rintro e w3 ⟨rfl,hb⟩
      refine ⟨_,rfl,?_⟩
      have HB:=Aside0.mk (below_step HD.out hb)
      have HS3:=Aside0.mk (HS.out.drew.step hb)
      clear hb
      refine hK.out _ _ ⟨((HB.out.cell (World.block_lt_of_cell? wr _ hcx)).trans hcx),((HB.out.cell (World.block_lt_of_cell? wr _ hcy)).trans hcy)⟩ (fun hHeld=>?_)
      clear hK K
      refine norm_ (a':=?_) ?_ ?_
      rotate_left
      ·show Act.put _ (some 169) _=_
       simp only [Act.put,List.setIfInBounds_toArray,List.set_cons_zero,List.set_cons_succ,i64_w,i32_w]
       rfl
      refine pure_ (i:=12) (N:=some 170) (v:=?_) (a':=?_) #[true,true,true,true,true,true,true,true,true,true,true,true,true,false] rfl rfl (by kernel_rfl) (fun _ _ _ h=>h) (Or.inl ⟨by rfl,?_⟩) ?_ ?_
      rotate_left;(intro w';go_simp;with_reducible rfl);rotate_left;(simp only [Act.put,List.setIfInBounds_toArray,List.set_cons_zero,List.set_cons_succ,i64_w,i32_w];rfl)
      refine pure_ (i:=13) (N:=some 171) (v:=?_) (a':=?_) #[true,true,true,true,true,true,true,true,true,true,true,true,true,true] rfl rfl (by kernel_rfl) (fun _ _ _ h=>h) (Or.inl ⟨by rfl,?_⟩) ?_ ?_
      rotate_left;(intro w';go_simp;with_reducible rfl);rotate_left;(simp only [Act.put,List.setIfInBounds_toArray,List.set_cons_zero,List.set_cons_succ,i64_w,i32_w];rfl)
      refine done_ (by kernel_rfl) ?_
      clear hcx hcy HS HB HD HCM q0 q1 q2 q3
      go_wp2
      go_roundg (h - i)
      case measure=>have:=HK.out;have:=HH.out;omega
      case rel=>exact ⟨i,h,rfl,by first|rfl|go_num,⟨by have:=HK.out;have:=HH.out;omega⟩,⟨by rw [HQ2.out,if_pos (by simp)];exact bsr_fuel P _ _ _ _ (by have:=HK.out;have:=HH.out;omega) (by omega)⟩,HS3⟩
     ·have c1 : decide (z < 0)=false:=decide_eq_false hlv
      rw [hPh,c1] at hq
      have HQ2:=Aside0.mk hq
      clear hq hPh hh hlv
      go_wp2_with fail
      refine start_ (n:=14) (S:=fun w'=>w'.cell? ⟨go,px,none⟩=some (.slice Ax nx cx)∧w'.cell? ⟨go,h,none⟩=some (.slice Ay ny cy)) (ds:=[]) #[false,false,false,false,false,false,false,false,false,false,false,false,false,false] (by kernel_rfl) rfl rfl ⟨hcx,hcy⟩ (fun hHeld=>?_)
      refine pure_ (i:=0) (N:=some 158) (v:=?_) (a':=?_) #[true,false,false,false,false,false,false,false,false,false,false,false,false,false] rfl rfl (by kernel_rfl) (fun _ _ _ h=>h) (Or.inl ⟨by rfl,?_⟩) ?_ ?_
      rotate_left;(intro w';go_simp;with_reducible rfl);rotate_left;(simp only [Act.put,List.setIfInBounds_toArray,List.set_cons_zero,List.set_cons_succ,i64_w,i32_w];rfl)
      refine pure_ (i:=1) (N:=some 159) (v:=?_) (a':=?_) #[true,true,false,false,false,false,false,false,false,false,false,false,false,false] rfl rfl (by kernel_rfl) (fun _ _ _ h=>h) (Or.inl ⟨by rfl,?_⟩) ?_ ?_
      rotate_left;(intro w';go_simp;with_reducible rfl);rotate_left;(simp only [Act.put,List.setIfInBounds_toArray,List.set_cons_zero,List.set_cons_succ,i64_w,i32_w];rfl)
      refine pure_ (i:=2) (N:=some 160) (v:=?_) (a':=?_) #[true,true,true,false,false,false,false,false,false,false,false,false,false,false] rfl rfl (by kernel_rfl) (fun _ _ _ h=>h) (Or.inl ⟨by rfl,?_⟩) ?_ ?_
      rotate_left;(intro w';go_simp;with_reducible rfl);rotate_left;(simp only [Act.put,List.setIfInBounds_toArray,List.set_cons_zero,List.set_cons_succ,i64_w,i32_w];rfl)
      refine pure_ (i:=3) (N:=some 161) (v:=?_) (a':=?_) #[true,true,true,true,false,false,false,false,false,false,false,false,false,false] rfl rfl (by kernel_rfl) (fun _ _ _ h=>h) (Or.inl ⟨by rfl,?_⟩) ?_ ?_
      rotate_left;(intro w';go_simp;with_reducible rfl);rotate_left;(simp only [Act.put,List.setIfInBounds_toArray,List.set_cons_zero,List.set_cons_succ,i64_w,i32_w];rfl)
      refine pure_ (i:=4) (N:=some 162) (v:=?_) (a':=?_) #[true,true,true,true,true,false,false,false,false,false,false,false,false,false] rfl rfl (by kernel_rfl) (fun _ _ _ h=>h) (Or.inl ⟨by rfl,?_⟩) ?_ ?_
      rotate_left;(intro w';go_simp;with_reducible rfl);rotate_left;(simp only [Act.put,List.setIfInBounds_toArray,List.set_cons_zero,List.set_cons_succ,i64_w,i32_w];rfl)
      refine pure_ (i:=5) (N:=some 163) (v:=?_) (a':=?_) #[true,true,true,true,true,true,false,false,false,false,false,false,false,false] rfl rfl (by kernel_rfl) (fun _ _ _ h=>h) (Or.inl ⟨by rfl,?_⟩) ?_ ?_
      rotate_left;(intro w';go_simp;with_reducible rfl);rotate_left;(simp only [Act.put,List.setIfInBounds_toArray,List.set_cons_zero,List.set_cons_succ,i64_w,i32_w];rfl)
      refine pure_ (i:=7) (N:=some 165) (v:=?_) (a':=?_) #[true,true,true,true,true,true,false,true,false,false,false,false,false,false] rfl rfl (by kernel_rfl) (fun _ _ _ h=>h) (Or.inl ⟨by rfl,?_⟩) ?_ ?_
      rotate_left;(intro w';go_simp;with_reducible rfl);rotate_left;(simp only [Act.put,List.setIfInBounds_toArray,List.set_cons_zero,List.set_cons_succ,i64_w,i32_w];rfl)
      refine pure_ (i:=8) (N:=some 166) (v:=?_) (a':=?_) #[true,true,true,true,true,true,false,true,true,false,false,false,false,false] rfl rfl (by kernel_rfl) (fun _ _ _ h=>h) (Or.inl ⟨by rfl,?_⟩) ?_ ?_
      rotate_left;(intro w';go_simp;with_reducible rfl);rotate_left;(simp only [Act.put,List.setIfInBounds_toArray,List.set_cons_zero,List.set_cons_succ,i64_w,i32_w];rfl)
      refine pure_ (i:=9) (N:=some 167) (v:=?_) (a':=?_) #[true,true,true,true,true,true,false,true,true,true,false,false,false,false] rfl rfl (by kernel_rfl) (fun _ _ _ h=>h) (Or.inl ⟨by rfl,?_⟩) ?_ ?_
      rotate_left;(intro w';go_simp;with_reducible rfl);rotate_left;(simp only [Act.put,List.setIfInBounds_toArray,List.set_cons_zero,List.set_cons_succ,i64_w,i32_w];rfl)
      refine take_ (i:=6) (N:=some 164) (v:=?_) (a':=?_) #[true,true,true,true,true,true,true,true,true,true,false,false,false,false] rfl rfl (by kernel_rfl) (fun _ _ _ h=>h) (Or.inl ⟨by rfl,?_⟩) hHeld ?_ ?_
      rotate_left;(rintro w' ⟨s0,s1⟩;go_simp;with_reducible rfl);rotate_left;(simp only [Act.put,List.setIfInBounds_toArray,List.set_cons_zero,List.set_cons_succ,i64_w,i32_w];rfl)
      refine take_ (i:=10) (N:=some 168) (v:=?_) (a':=?_) #[true,true,true,true,true,true,true,true,true,true,true,false,false,false] rfl rfl (by kernel_rfl) (fun _ _ _ h=>h) (Or.inl ⟨by rfl,?_⟩) hHeld ?_ ?_
      rotate_left;(rintro w' ⟨s0,s1⟩;go_simp;with_reducible rfl);rotate_left;(simp only [Act.put,List.setIfInBounds_toArray,List.set_cons_zero,List.set_cons_succ,i64_w,i32_w];rfl)
      refine one_ (i:=11) (N:=some 169) #[true,true,true,true,true,true,true,true,true,true,true,true,false,false] rfl rfl (by kernel_rfl) (by decide) (fun K hK=>?_)
      refine goesC_ Try.func25 (by kernel_rfl) rfl #[.slice Ax nx cx,.slice Ay ny cy,.pointer (some ⟨gs,0,none⟩)] (by rfl) rfl rfl rfl (by simp only [List.map_toArray,List.map_cons,List.map_nil];rfl) ?_
      with_reducible refine (HCM.out _ HS.out.drew).mono ?_
      rintro e w3 ⟨rfl,hb⟩
      refine ⟨_,rfl,?_⟩
      have HB:=Aside0.mk (below_step HD.out hb)
      have HS3:=Aside0.mk (HS.out.drew.step hb)
      clear hb
      refine hK.out _ _ ⟨((HB.out.cell (World.block_lt_of_cell? wr _ hcx)).trans hcx),((HB.out.cell (World.block_lt_of_cell? wr _ hcy)).trans hcy)⟩ (fun hHeld=>?_)
      clear hK K
      refine norm_ (a':=?_) ?_ ?_
      rotate_left
      ·show Act.put _ (some 169) _=_
       simp only [Act.put,List.setIfInBounds_toArray,List.set_cons_zero,List.set_cons_succ,i64_w,i32_w]
       rfl
      refine pure_ (i:=12) (N:=some 170) (v:=?_) (a':=?_) #[true,true,true,true,true,true,true,true,true,true,true,true,true,false] rfl rfl (by kernel_rfl) (fun _ _ _ h=>h) (Or.inl ⟨by rfl,?_⟩) ?_ ?_
      rotate_left;(intro w';go_simp;with_reducible rfl);rotate_left;(simp only [Act.put,List.setIfInBounds_toArray,List.set_cons_zero,List.set_cons_succ,i64_w,i32_w];rfl)
      refine pure_ (i:=13) (N:=some 171) (v:=?_) (a':=?_) #[true,true,true,true,true,true,true,true,true,true,true,true,true,true] rfl rfl (by kernel_rfl) (fun _ _ _ h=>h) (Or.inl ⟨by rfl,?_⟩) ?_ ?_
      rotate_left;(intro w';go_simp;with_reducible rfl);rotate_left;(simp only [Act.put,List.setIfInBounds_toArray,List.set_cons_zero,List.set_cons_succ,i64_w,i32_w];rfl)
      refine done_ (by kernel_rfl) ?_
      clear hcx hcy HS HB HD HCM q0 q1 q2 q3
      go_wp2
      go_roundg (j - (h + 1))
      case measure=>have:=HK.out;have:=HH.out;omega
      case rel=>exact ⟨h + 1,j,by first|rfl|go_num,rfl,⟨by have:=HK.out;have:=HH.out;omega⟩,⟨by rw [HQ2.out,if_neg (by simp)];exact bsr_fuel P _ _ _ _ (by have:=HK.out;have:=HH.out;omega) (by omega)⟩,HS3⟩
    ·have hltz : ¬ (i : Int) < (j : Int):=by omega
     have hq:=HQ.out
     rw [show j - i=0 by omega,bsr] at hq
     have HRI:=Aside0.mk hq
     have HKK:=Aside0.mk (show s0≤i∧i≤r0 by have:=HK.out;omega)
     clear hq HQ HK
     have hri:=HRI.out
     go_wp2
     go_meet
     case rel=>exact ⟨by rw [HRR.out,← HP.out,← HR.out,hri],HS⟩
  case rest=>as_aux_lemma =>
   clear HS HRR
   obtain ⟨rfl,HS⟩:=hcut
   go_upto_region 39 with fail
   obtain ⟨B1,hB1⟩ : ∃ B : Bool,B=decide (rr < m∧m < e):=⟨_,rfl⟩
   have HB1:=Aside0.mk hB1
   clear hB1
   go_cut [20,185] (fun v20 v185 wc=>v20=.int .i64 rr∧v185=.bool B1∧Aside0 (SW0 w0 wc gs go cs V p))
   case first =>
    by_cases q1 : rr < m
    ·by_cases q2 : m < e
     ·have qd:=Aside0.mk (decide_eq_true (And.intro q1 q2))
      go_wp2
      go_meet
      case rel=>exact ⟨rfl,by rw [HB1.out,qd.out],HS⟩
     ·have qd:=Aside0.mk (decide_eq_false (fun h : rr < m∧m < e=>q2 h.2))
      go_wp2
      go_meet
      case rel=>exact ⟨rfl,by rw [HB1.out,qd.out],HS⟩
    ·have qd:=Aside0.mk (decide_eq_false (fun h : rr < m∧m < e=>q1 h.1))
     go_wp2
     go_meet
     case rel=>exact ⟨rfl,by rw [HB1.out,qd.out],HS⟩
   case rest=>as_aux_lemma =>
    clear HS
    obtain ⟨rfl,rfl,HS⟩:=hcut
    go_upto_if 185 with fail
    go_cut [20] (fun v20 wc=>v20=.int .i64 rr∧Aside0 (SW0 w0 wc gs go cs V x1))
    case first =>
     have hx:=HX1.out
     cases B1 with
     | true =>
      have q:=of_decide_eq_true HB1.out.symm
      rw [if_pos q] at hx
      have HX:=Aside0.mk hx
      have SD:=Aside0.mk (show p.length=n∧rr < m∧m < e∧e≤n∧n≤1000000000∧(rr : Int)=(rr : Nat)∧(m : Int)=(m : Nat)∧(e : Int)=(e : Nat) by have:=HN.out;have:=HE.out;have:=HRB.out;have:=HB0.out;omega)
      clear hx q
      go_wp2_with (go_at_call 44;refine (rotate_z w0 gs go cs V HV1.out n cap rr m e p _ HS.out _ _ _ SD.out).mono ?_;rintro e9 w9 ⟨rfl,h⟩;have HS9:=Aside0.mk h;clear h)
      go_meet
      case rel=>exact ⟨rfl,⟨by rw [HX.out];exact HS9.out⟩⟩
     | false =>
      rw [if_neg (of_decide_eq_false HB1.out.symm)] at hx
      have HX:=Aside0.mk hx
      clear hx
      go_wp2
      go_meet
      case rel=>exact ⟨rfl,⟨by rw [HX.out];exact HS.out⟩⟩
    case rest=>as_aux_lemma =>
     clear HS HX1
     obtain ⟨rfl,HS⟩:=hcut
     go_upto_region 41 with fail
     obtain ⟨B2,hB2⟩ : ∃ B : Bool,B=decide (a < rr∧rr < mid):=⟨_,rfl⟩
     have HB2:=Aside0.mk hB2
     clear hB2
     go_cut [20,199] (fun v20 v185 wc=>v20=.int .i64 rr∧v185=.bool B2∧Aside0 (SW0 w0 wc gs go cs V x1))
     case first =>
      by_cases q1 : a < rr
      ·by_cases q2 : rr < mid
       ·have qd:=Aside0.mk (decide_eq_true (And.intro q1 q2))
        go_wp2
        go_meet
        case rel=>exact ⟨rfl,by rw [HB2.out,qd.out],HS⟩
       ·have qd:=Aside0.mk (decide_eq_false (fun h : a < rr∧rr < mid=>q2 h.2))
        go_wp2
        go_meet
        case rel=>exact ⟨rfl,by rw [HB2.out,qd.out],HS⟩
      ·have qd:=Aside0.mk (decide_eq_false (fun h : a < rr∧rr < mid=>q1 h.1))
       go_wp2
       go_meet
       case rel=>exact ⟨rfl,by rw [HB2.out,qd.out],HS⟩
     case rest=>as_aux_lemma =>
      clear HS
      obtain ⟨rfl,rfl,HS⟩:=hcut
      go_upto_if 199 with fail
      go_cut [20] (fun v20 wc=>v20=.int .i64 rr∧Aside0 (SW0 w0 wc gs go cs V x2))
      case first =>
       have hx:=HX2.out
       cases B2 with
       | true =>
        have q:=of_decide_eq_true HB2.out.symm
        rw [if_pos q] at hx
        have HX:=Aside0.mk hx
        have SD:=Aside0.mk (show x1.length=n∧a < rr∧rr < mid∧mid≤n∧mid - a≤f∧(a : Int)=(a : Nat)∧(rr : Int)=(rr : Nat)∧(mid : Int)=(mid : Nat) by have:=HN.out;have:=HL1.out;have:=HM.out;omega)
        clear hx q
        go_wp2_with (go_at_call 38;refine (HI.out a rr mid x1 _ HS.out _ _ _ SD.out).mono ?_;rintro e9 w9 ⟨rfl,h⟩;have HS9:=Aside0.mk h;clear h)
        go_meet
        case rel=>exact ⟨rfl,⟨by rw [HX.out];exact HS9.out⟩⟩
       | false =>
        rw [if_neg (of_decide_eq_false HB2.out.symm)] at hx
        have HX:=Aside0.mk hx
        clear hx
        go_wp2
        go_meet
        case rel=>exact ⟨rfl,⟨by rw [HX.out];exact HS.out⟩⟩
      case rest=>as_aux_lemma =>
       clear HS HX2
       obtain ⟨rfl,HS⟩:=hcut
       by_cases q1 : mid < e
       ·by_cases q2 : e < b
        ·have SD:=Aside0.mk (show x2.length=n∧mid < e∧e < b∧b≤n∧b - mid≤f∧(mid : Int)=(mid : Nat)∧(e : Int)=(e : Nat)∧(b : Int)=(b : Nat) by have:=HN.out;have:=HL2.out;have:=HM.out;omega)
         have HX:=Aside0.mk (HFIN.out.trans (if_pos ⟨q1,q2⟩))
         go_wp2_with (go_at_call 38;refine (HI.out mid e b x2 _ HS.out _ _ _ SD.out).mono ?_;rintro e9 w9 ⟨rfl,h⟩;have HS9:=Aside0.mk h;clear h)
         go_end0
         exact ⟨rfl,by rw [HX.out];exact HS9.out⟩
        ·have HX:=Aside0.mk (HFIN.out.trans (if_neg (fun h=>q2 h.2)))
         go_wp2
         go_end0
         exact ⟨rfl,by rw [HX.out];exact HS.out⟩
       ·have HX:=Aside0.mk (HFIN.out.trans (if_neg (fun h=>q1 h.1)))
        go_wp2
        go_end0
        exact ⟨rfl,by rw [HX.out];exact HS.out⟩
end Go.Proofs.Ytojbeofipedolaa.P

