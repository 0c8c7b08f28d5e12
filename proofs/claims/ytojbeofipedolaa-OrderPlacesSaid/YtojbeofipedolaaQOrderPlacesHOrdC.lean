/- Texts of OrderPlaces. Merged: HOrdC. -/
import Derived.Test.YtojbeofipedolaaQOrderPlacesHOrdB
/- slices.insertionSortCmpFunc over order.Sort's closure, by hand. -/
namespace Go.Proofs.Ytojbeofipedolaa.P
open Go.RowKit Go.Proofs.YtojbeofipedolaaW.PrintWords Go.Proofs.YtojbeofipedolaaW.PrintLast Go.Proofs.YtojbeofipedolaaW.PrintMore
set_option linter.unusedVariables false
set_option linter.unusedSimpArgs false
theorem goesC_ {P : Program} {ops : Array Oper} {Q : Exit→Act→World→Prop} {oi : Oper} {N : Option Tmp} {a : Act} {w : World} {K : Act→World→Prop} {f : FuncId} {fn : Func} {x : Operand} {xs : Array Operand} {ts : Array TypeId} {cb : Array Value} (hf : P.funcs[f]?=some fn) (hname : (fn.name == "runtime.NumGoroutine")=false) (hb : fn.body.isSome=true) (args : Array Value)
  (hw : Region.wanted oi (yielded ops a.tmps)=true) (hN : oi.dst=N) (hop : oi.op=.call { callee:=.value x,args:=xs,argTypes:=ts }) (hx : a.eval x=.func (.func f) #[] cb) (hargs : xs.map a.eval ++ cb=args)
  (h : Calls P f args w fun e w'=>∃ v,e=.returned v∧K (a.put N v) w') : if Region.wanted oi (yielded ops a.tmps)=true then Oper.wp P oi a w K Q else K (a.put N undef) w:=by
 refine call_ f args hw hN ?_ h
 have he:=enters_ hf hname hb args w
 unfold execOp
 simp [hop,resolve,Deferred.ofValue,invoke,hargs,he,hx]
def ltC (cf : Nat→Nat→Int) : Nat→Nat→Bool:=fun i j=>decide (cf i j < 0)
theorem insIn_length (lt : Nat→Nat→Bool) (a : Nat) : ∀ (j : Nat) (xs : List Nat),(insIn 0 lt a j xs).length=xs.length
 | 0,_=>rfl
 | j + 1,xs=>by
  unfold insIn
  split
  ·rw [insIn_length,swp_length]
  ·rfl
theorem insSort_length (lt : Nat→Nat→Bool) (a : Nat) : ∀ (d i : Nat) (xs : List Nat),(insSort 0 lt a d i xs).length=xs.length
 | 0,_,_=>rfl
 | d + 1,i,xs=>by unfold insSort;rw [insSort_length,insIn_length]
set_option maxHeartbeats 8000000 in
set_option maxRecDepth 100000 in
theorem insertion_any (w0 : World) (gs go : Nat) (cs : Array Value) (V : Nat→Value) (hV1 : ∀ i,∃ A n c,V i=.slice A n c) (cf : Nat→Nat→Int) (hC : CmpOk w0 gs go cs V cf) (n cap a b : Nat) (p : List Nat) (w : World) (hS : SW0 w0 w gs go cs V p) (hp : p.length=n) (hab : a≤b) (hb : b≤n) (hn : n≤1000000000) :
  Calls Try.prog 37 #[.slice (some ⟨go,0,none⟩) n cap,.int .i64 a,.int .i64 b,FV gs] w fun e w'=>e=.returned (.tuple #[])∧SW0 w0 w' gs go cs V (insSort 0 (ltC cf) a (b - (a + 1)) (a + 1) p):=by
 unfold FV
 have mixed : Try.prog.follows Departure.mixedOrders=true:=rfl
 have HS:=Aside0.mk hS
 have HV1:=Aside0.mk hV1
 have HC:=Aside0.mk hC
 have HN:=Aside0.mk (And.intro hab (And.intro hb hn))
 clear hS hV1 hC
 go_enter Try.func37,Try.ntmps37
 go_wp2
 go_loopg [8] (b - (a + 1)) (fun gk v wr=>∃ (i : Nat) (q : List Nat),v=.int .i64 i∧Aside0 (a < i∧i≤b + 1∧(i < b→i + gk=b)∧(¬ i < b→gk=0)∧q.length=n)∧Aside0 (SW0 w0 wr gs go cs V q)∧Aside0 (insSort 0 (ltC cf) a (b - (a + 1)) (a + 1) p=insSort 0 (ltC cf) a gk i q))
 case atStart=>exact ⟨a + 1,p,by first|rfl|go_num,⟨by omega⟩,HS,⟨rfl⟩⟩
 case round =>
  clear HS
  obtain ⟨i,q,rfl,HK,HS,HE⟩:=hrel
  by_cases hlt : i < b
  ·have hltz : (i : Int) < (b : Int):=by omega
   obtain ⟨m1,hm1⟩ : ∃ m,gk=m + 1:=⟨gk - 1,by have:=HK.out.2.2.1 hlt;have:=HK.out;omega⟩
   have HM:=Aside0.mk hm1
   have hE:=HE.out
   rw [hm1,insSort] at hE
   have HE2:=Aside0.mk hE
   have HLT:=Aside0.mk hlt
   clear hm1 hE HE hlt
   go_wp2
   go_loopg [9] i (fun gj v9 wr=>∃ (j : Nat) (r : List Nat),v9=.int .i64 j∧Aside0 (a≤j∧j≤i∧j=gj∧r.length=n)∧Aside0 (SW0 w0 wr gs go cs V r)∧Aside0 (insIn 0 (ltC cf) a i q=insIn 0 (ltC cf) a j r))
   case atStart=>exact ⟨i,q,rfl,⟨by have:=HK.out;omega⟩,HS,⟨rfl⟩⟩
   case round =>
    clear HS
    obtain ⟨j,r,rfl,HJ,HS,HI⟩:=hrel
    by_cases hja : a < j
    ·obtain ⟨jp,hjp⟩ : ∃ q,j=q + 1:=⟨j - 1,by omega⟩
     obtain ⟨Ax,nx,cx,hvx⟩:=HV1.out (gt_ 0 r j)
     obtain ⟨Ay,ny,cy,hvy⟩:=HV1.out (gt_ 0 r jp)
     obtain ⟨z,hz⟩ : ∃ z,z=cf (gt_ 0 r j) (gt_ 0 r jp):=⟨_,rfl⟩
     have hcm : ∀ W,SW0 w0 W gs go cs V r→Calls Try.prog 25 #[.slice Ax nx cx,.slice Ay ny cy,.pointer (some ⟨gs,0,none⟩)] W fun e w'=>e=.returned (.int .i64 z)∧Below W.heap.size W w':=fun W h=>by
      rw [← hvx,← hvy,hz];exact HC.out W r h _ _
     have HCM:=Aside0.mk hcm
     have hjr : j < r.length:=by have:=HJ.out;have:=HLT.out;have:=HN.out;omega
     have hcx : wr.cell? ⟨go,j,none⟩=some (.slice Ax nx cx):=by rw [← hvx];exact HS.out.cell j hjr
     have hcy : wr.cell? ⟨go,jp,none⟩=some (.slice Ay ny cy):=by rw [← hvy];exact HS.out.cell jp (by omega)
     have ew : wrap64 ((j : Int) - 1)=(jp : Int):=by rw [w64 (by omega) (by have:=HJ.out;omega)];omega
     have q0 : (0≤(j : Int))=True:=eq_true (by omega)
     have q1 : ((j : Int) < (n : Int))=True:=eq_true (by have:=HJ.out;omega)
     have q2 : (0≤(jp : Int))=True:=eq_true (by omega)
     have q3 : ((jp : Int) < (n : Int))=True:=eq_true (by have:=HJ.out;omega)
     have c0 : decide ((j : Int) > (a : Int))=true:=decide_eq_true (by omega)
     have c0b : ((a : Int) < (j : Int))=True:=eq_true (by omega)
     have HJP:=Aside0.mk hjp
     have HJA:=Aside0.mk (And.intro hja hjr)
     have HD:=Aside0.mk (below_drew1 (Below.refl wr.heap.size wr))
     by_cases hlv : z < 0
     ·have c1 : decide (z < 0)=true:=decide_eq_true hlv
      have hI:=HI.out
      rw [hjp,insIn,if_pos ⟨by rw [← hjp];exact hja,by rw [← hjp];unfold ltC;rw [← hz];exact c1⟩,← hjp] at hI
      have HI2:=Aside0.mk hI
      clear hI HI hcm hja hjr hjp hz hlv
      try go_wp2_with fail
      refine start_ (n:=17) (S:=fun w'=>w'.cell? ⟨go,j,none⟩=some (.slice Ax nx cx)∧w'.cell? ⟨go,jp,none⟩=some (.slice Ay ny cy)) (ds:=[]) #[false,false,false,false,false,false,false,false,false,false,false,false,false,false,false,false,false] (by kernel_rfl) rfl rfl ⟨hcx,hcy⟩ (fun hHeld=>?_)
      refine pure_ (i:=0) (N:=some 18) (v:=?_) (a':=?_) #[true,false,false,false,false,false,false,false,false,false,false,false,false,false,false,false,false] rfl rfl (by kernel_rfl) (fun _ _ _ h=>h) (Or.inl ⟨by rfl,?_⟩) ?_ ?_
      rotate_left;(intro w';go_simp;with_reducible rfl);rotate_left;(simp only [Act.put,List.setIfInBounds_toArray,List.set_cons_zero,List.set_cons_succ,i64_w,i32_w];rfl)
      refine pure_ (i:=1) (N:=some 19) (v:=?_) (a':=?_) #[true,true,false,false,false,false,false,false,false,false,false,false,false,false,false,false,false] rfl rfl (by kernel_rfl) (fun _ _ _ h=>h) (Or.inl ⟨by rfl,?_⟩) ?_ ?_
      rotate_left;(intro w';go_simp;with_reducible rfl);rotate_left;(simp only [Act.put,List.setIfInBounds_toArray,List.set_cons_zero,List.set_cons_succ,i64_w,i32_w];rfl)
      refine pure_ (i:=2) (N:=some 20) (v:=?_) (a':=?_) #[true,true,true,false,false,false,false,false,false,false,false,false,false,false,false,false,false] rfl rfl (by kernel_rfl) (fun _ _ _ h=>h) (Or.inl ⟨by rfl,?_⟩) ?_ ?_
      rotate_left;(intro w';go_simp;with_reducible rfl);rotate_left;(simp only [Act.put,List.setIfInBounds_toArray,List.set_cons_zero,List.set_cons_succ,i64_w,i32_w];rfl)
      refine pure_ (i:=3) (N:=some 21) (v:=?_) (a':=?_) #[true,true,true,true,false,false,false,false,false,false,false,false,false,false,false,false,false] rfl rfl (by kernel_rfl) (fun _ _ _ h=>h) (Or.inl ⟨by rfl,?_⟩) ?_ ?_
      rotate_left;(intro w';go_simp;with_reducible rfl);rotate_left;(simp only [Act.put,List.setIfInBounds_toArray,List.set_cons_zero,List.set_cons_succ,i64_w,i32_w];rfl)
      refine pure_ (i:=4) (N:=some 22) (v:=?_) (a':=?_) #[true,true,true,true,true,false,false,false,false,false,false,false,false,false,false,false,false] rfl rfl (by kernel_rfl) (fun _ _ _ h=>h) (Or.inl ⟨by rfl,?_⟩) ?_ ?_
      rotate_left;(intro w';go_simp;with_reducible rfl);rotate_left;(simp only [Act.put,List.setIfInBounds_toArray,List.set_cons_zero,List.set_cons_succ,i64_w,i32_w];rfl)
      refine pure_ (i:=5) (N:=some 23) (v:=?_) (a':=?_) #[true,true,true,true,true,true,false,false,false,false,false,false,false,false,false,false,false] rfl rfl (by kernel_rfl) (fun _ _ _ h=>h) (Or.inl ⟨by rfl,?_⟩) ?_ ?_
      rotate_left;(intro w';go_simp;with_reducible rfl);rotate_left;(simp only [Act.put,List.setIfInBounds_toArray,List.set_cons_zero,List.set_cons_succ,i64_w,i32_w];rfl)
      refine pure_ (i:=6) (N:=some 24) (v:=?_) (a':=?_) #[true,true,true,true,true,true,true,false,false,false,false,false,false,false,false,false,false] rfl rfl (by kernel_rfl) (fun _ _ _ h=>h) (Or.inl ⟨by rfl,?_⟩) ?_ ?_
      rotate_left;(intro w';go_simp;with_reducible rfl);rotate_left;(simp only [Act.put,List.setIfInBounds_toArray,List.set_cons_zero,List.set_cons_succ,i64_w,i32_w];rfl)
      refine pure_ (i:=7) (N:=some 25) (v:=?_) (a':=?_) #[true,true,true,true,true,true,true,true,false,false,false,false,false,false,false,false,false] rfl rfl (by kernel_rfl) (fun _ _ _ h=>h) (Or.inl ⟨by rfl,?_⟩) ?_ ?_
      rotate_left;(intro w';go_simp;with_reducible rfl);rotate_left;(simp only [Act.put,List.setIfInBounds_toArray,List.set_cons_zero,List.set_cons_succ,i64_w,i32_w];rfl)
      refine pure_ (i:=9) (N:=some 27) (v:=?_) (a':=?_) #[true,true,true,true,true,true,true,true,false,true,false,false,false,false,false,false,false] rfl rfl (by kernel_rfl) (fun _ _ _ h=>h) (Or.inl ⟨by rfl,?_⟩) ?_ ?_
      rotate_left;(intro w';go_simp;with_reducible rfl);rotate_left;(simp only [Act.put,List.setIfInBounds_toArray,List.set_cons_zero,List.set_cons_succ,i64_w,i32_w];rfl)
      refine pure_ (i:=10) (N:=some 28) (v:=?_) (a':=?_) #[true,true,true,true,true,true,true,true,false,true,true,false,false,false,false,false,false] rfl rfl (by kernel_rfl) (fun _ _ _ h=>h) (Or.inl ⟨by rfl,?_⟩) ?_ ?_
      rotate_left;(intro w';go_simp;with_reducible rfl);rotate_left;(simp only [Act.put,List.setIfInBounds_toArray,List.set_cons_zero,List.set_cons_succ,i64_w,i32_w];rfl)
      refine pure_ (i:=11) (N:=some 29) (v:=?_) (a':=?_) #[true,true,true,true,true,true,true,true,false,true,true,true,false,false,false,false,false] rfl rfl (by kernel_rfl) (fun _ _ _ h=>h) (Or.inl ⟨by rfl,?_⟩) ?_ ?_
      rotate_left;(intro w';go_simp;with_reducible rfl);rotate_left;(simp only [Act.put,List.setIfInBounds_toArray,List.set_cons_zero,List.set_cons_succ,i64_w,i32_w];rfl)
      refine pure_ (i:=12) (N:=some 30) (v:=?_) (a':=?_) #[true,true,true,true,true,true,true,true,false,true,true,true,true,false,false,false,false] rfl rfl (by kernel_rfl) (fun _ _ _ h=>h) (Or.inl ⟨by rfl,?_⟩) ?_ ?_
      rotate_left;(intro w';go_simp;with_reducible rfl);rotate_left;(simp only [Act.put,List.setIfInBounds_toArray,List.set_cons_zero,List.set_cons_succ,i64_w,i32_w];rfl)
      refine take_ (i:=8) (N:=some 26) (v:=?_) (a':=?_) #[true,true,true,true,true,true,true,true,true,true,true,true,true,false,false,false,false] rfl rfl (by kernel_rfl) (fun _ _ _ h=>h) (Or.inl ⟨by rfl,?_⟩) hHeld ?_ ?_
      rotate_left;(rintro w' ⟨s0,s1⟩;go_simp;with_reducible rfl);rotate_left;(simp only [Act.put,List.setIfInBounds_toArray,List.set_cons_zero,List.set_cons_succ,i64_w,i32_w];rfl)
      refine take_ (i:=13) (N:=some 31) (v:=?_) (a':=?_) #[true,true,true,true,true,true,true,true,true,true,true,true,true,true,false,false,false] rfl rfl (by kernel_rfl) (fun _ _ _ h=>h) (Or.inl ⟨by rfl,?_⟩) hHeld ?_ ?_
      rotate_left;(rintro w' ⟨s0,s1⟩;go_simp;with_reducible rfl);rotate_left;(simp only [Act.put,List.setIfInBounds_toArray,List.set_cons_zero,List.set_cons_succ,i64_w,i32_w];rfl)
      refine one_ (i:=14) (N:=some 32) #[true,true,true,true,true,true,true,true,true,true,true,true,true,true,true,false,false] rfl rfl (by kernel_rfl) (by decide) (fun K hK=>?_)
      refine goesC_ Try.func25 (by kernel_rfl) rfl #[.slice Ax nx cx,.slice Ay ny cy,.pointer (some ⟨gs,0,none⟩)] (by rfl) rfl rfl rfl (by simp only [List.map_toArray,List.map_cons,List.map_nil];rfl) ?_
      with_reducible refine (HCM.out _ HS.out.drew).mono ?_
      rintro e w3 ⟨rfl,hb⟩
      refine ⟨_,rfl,?_⟩
      have HB:=Aside0.mk (below_step HD.out hb)
      have HS3:=Aside0.mk (HS.out.drew.step hb)
      clear hb
      refine hK.out _ _ ⟨((HB.out.cell (World.block_lt_of_cell? wr _ hcx)).trans hcx),((HB.out.cell (World.block_lt_of_cell? wr _ hcy)).trans hcy)⟩ (fun hHeld=>?_)
      clear hK K
      refine norm_ (a':=?_) ?_ ?_
      rotate_left
      ·show Act.put _ (some 32) _=_
       simp only [Act.put,List.setIfInBounds_toArray,List.set_cons_zero,List.set_cons_succ,i64_w,i32_w]
       rfl
      refine pure_ (i:=15) (N:=some 33) (v:=?_) (a':=?_) #[true,true,true,true,true,true,true,true,true,true,true,true,true,true,true,true,false] rfl rfl (by kernel_rfl) (fun _ _ _ h=>h) (Or.inl ⟨by rfl,?_⟩) ?_ ?_
      rotate_left;(intro w';go_simp;with_reducible rfl);rotate_left;(simp only [Act.put,List.setIfInBounds_toArray,List.set_cons_zero,List.set_cons_succ,i64_w,i32_w];rfl)
      refine pure_ (i:=16) (N:=some 34) (v:=?_) (a':=?_) #[true,true,true,true,true,true,true,true,true,true,true,true,true,true,true,true,true] rfl rfl (by kernel_rfl) (fun _ _ _ h=>h) (Or.inl ⟨by rfl,?_⟩) ?_ ?_
      rotate_left;(intro w';go_simp;with_reducible rfl);rotate_left;(simp only [Act.put,List.setIfInBounds_toArray,List.set_cons_zero,List.set_cons_succ,i64_w,i32_w];rfl)
      refine done_ (by kernel_rfl) ?_
      clear hcx hcy HS HB HD HCM
      have hfx:=HS3.out.frozen j
      have hfy:=HS3.out.frozen jp
      have hcx : w3.cell? ⟨go,j,none⟩=some (.slice Ax nx cx):=by rw [← hvx];exact HS3.out.cell j HJA.out.2
      have hcy : w3.cell? ⟨go,jp,none⟩=some (.slice Ay ny cy):=by rw [← hvy];exact HS3.out.cell jp (by have:=HJA.out.2;have:=HJP.out;omega)
      obtain ⟨u,hu⟩ : ∃ u,(w3.setCell ⟨go,j,none⟩ (.slice Ay ny cy)).cell? ⟨go,jp,none⟩=some u:=by rw [← hvy];exact HS3.out.cell2 j jp _ (by have:=HJA.out.2;have:=HJP.out;omega)
      have S3:=Aside0.mk (show SW0 w0 ((w3.setCell ⟨go,j,none⟩ (.slice Ay ny cy)).setCell ⟨go,jp,none⟩ (.slice Ax nx cx)).drew gs go cs V (swp 0 r j jp) by rw [← hvx,← hvy];exact HS3.out.swap j jp)
      clear hvx hvy HS3
      go_wp2_with fail
      go_big_region_o
      clear hcx hcy hfx hfy hu
      generalize ((w3.setCell ⟨go,j,none⟩ (.slice Ay ny cy)).setCell ⟨go,jp,none⟩ (.slice Ax nx cx)).drew=w4 at S3 ⊢
      clear q0 q1 q2 q3 c0 c0b c1
      go_wp2
      go_roundg jp
      case measure=>have:=HJ.out;have:=HJP.out;omega
      case rel=>exact ⟨jp,swp 0 r j jp,by first|rfl|(congr 1;done)|(congr 1;have:=HJP.out;omega),⟨by have:=HJ.out;have:=HJP.out;have:=HJA.out.1;rw [swp_length];omega⟩,S3,⟨by rw [HI2.out,HJP.out]⟩⟩
     ·have c1 : decide (z < 0)=false:=decide_eq_false hlv
      have hI:=HI.out
      rw [hjp,insIn,if_neg (fun h=>by have h2:=h.2;rw [← hjp] at h2;unfold ltC at h2;rw [← hz,c1] at h2;exact absurd h2 (by simp))] at hI
      have HI2:=Aside0.mk hI
      clear hI HI hcm hja hjr hjp hz hlv hvx hvy
      try go_wp2_with fail
      refine start_ (n:=17) (S:=fun w'=>w'.cell? ⟨go,j,none⟩=some (.slice Ax nx cx)∧w'.cell? ⟨go,jp,none⟩=some (.slice Ay ny cy)) (ds:=[]) #[false,false,false,false,false,false,false,false,false,false,false,false,false,false,false,false,false] (by kernel_rfl) rfl rfl ⟨hcx,hcy⟩ (fun hHeld=>?_)
      refine pure_ (i:=0) (N:=some 18) (v:=?_) (a':=?_) #[true,false,false,false,false,false,false,false,false,false,false,false,false,false,false,false,false] rfl rfl (by kernel_rfl) (fun _ _ _ h=>h) (Or.inl ⟨by rfl,?_⟩) ?_ ?_
      rotate_left;(intro w';go_simp;with_reducible rfl);rotate_left;(simp only [Act.put,List.setIfInBounds_toArray,List.set_cons_zero,List.set_cons_succ,i64_w,i32_w];rfl)
      refine pure_ (i:=1) (N:=some 19) (v:=?_) (a':=?_) #[true,true,false,false,false,false,false,false,false,false,false,false,false,false,false,false,false] rfl rfl (by kernel_rfl) (fun _ _ _ h=>h) (Or.inl ⟨by rfl,?_⟩) ?_ ?_
      rotate_left;(intro w';go_simp;with_reducible rfl);rotate_left;(simp only [Act.put,List.setIfInBounds_toArray,List.set_cons_zero,List.set_cons_succ,i64_w,i32_w];rfl)
      refine pure_ (i:=2) (N:=some 20) (v:=?_) (a':=?_) #[true,true,true,false,false,false,false,false,false,false,false,false,false,false,false,false,false] rfl rfl (by kernel_rfl) (fun _ _ _ h=>h) (Or.inl ⟨by rfl,?_⟩) ?_ ?_
      rotate_left;(intro w';go_simp;with_reducible rfl);rotate_left;(simp only [Act.put,List.setIfInBounds_toArray,List.set_cons_zero,List.set_cons_succ,i64_w,i32_w];rfl)
      refine pure_ (i:=3) (N:=some 21) (v:=?_) (a':=?_) #[true,true,true,true,false,false,false,false,false,false,false,false,false,false,false,false,false] rfl rfl (by kernel_rfl) (fun _ _ _ h=>h) (Or.inl ⟨by rfl,?_⟩) ?_ ?_
      rotate_left;(intro w';go_simp;with_reducible rfl);rotate_left;(simp only [Act.put,List.setIfInBounds_toArray,List.set_cons_zero,List.set_cons_succ,i64_w,i32_w];rfl)
      refine pure_ (i:=4) (N:=some 22) (v:=?_) (a':=?_) #[true,true,true,true,true,false,false,false,false,false,false,false,false,false,false,false,false] rfl rfl (by kernel_rfl) (fun _ _ _ h=>h) (Or.inl ⟨by rfl,?_⟩) ?_ ?_
      rotate_left;(intro w';go_simp;with_reducible rfl);rotate_left;(simp only [Act.put,List.setIfInBounds_toArray,List.set_cons_zero,List.set_cons_succ,i64_w,i32_w];rfl)
      refine pure_ (i:=5) (N:=some 23) (v:=?_) (a':=?_) #[true,true,true,true,true,true,false,false,false,false,false,false,false,false,false,false,false] rfl rfl (by kernel_rfl) (fun _ _ _ h=>h) (Or.inl ⟨by rfl,?_⟩) ?_ ?_
      rotate_left;(intro w';go_simp;with_reducible rfl);rotate_left;(simp only [Act.put,List.setIfInBounds_toArray,List.set_cons_zero,List.set_cons_succ,i64_w,i32_w];rfl)
      refine pure_ (i:=6) (N:=some 24) (v:=?_) (a':=?_) #[true,true,true,true,true,true,true,false,false,false,false,false,false,false,false,false,false] rfl rfl (by kernel_rfl) (fun _ _ _ h=>h) (Or.inl ⟨by rfl,?_⟩) ?_ ?_
      rotate_left;(intro w';go_simp;with_reducible rfl);rotate_left;(simp only [Act.put,List.setIfInBounds_toArray,List.set_cons_zero,List.set_cons_succ,i64_w,i32_w];rfl)
      refine pure_ (i:=7) (N:=some 25) (v:=?_) (a':=?_) #[true,true,true,true,true,true,true,true,false,false,false,false,false,false,false,false,false] rfl rfl (by kernel_rfl) (fun _ _ _ h=>h) (Or.inl ⟨by rfl,?_⟩) ?_ ?_
      rotate_left;(intro w';go_simp;with_reducible rfl);rotate_left;(simp only [Act.put,List.setIfInBounds_toArray,List.set_cons_zero,List.set_cons_succ,i64_w,i32_w];rfl)
      refine pure_ (i:=9) (N:=some 27) (v:=?_) (a':=?_) #[true,true,true,true,true,true,true,true,false,true,false,false,false,false,false,false,false] rfl rfl (by kernel_rfl) (fun _ _ _ h=>h) (Or.inl ⟨by rfl,?_⟩) ?_ ?_
      rotate_left;(intro w';go_simp;with_reducible rfl);rotate_left;(simp only [Act.put,List.setIfInBounds_toArray,List.set_cons_zero,List.set_cons_succ,i64_w,i32_w];rfl)
      refine pure_ (i:=10) (N:=some 28) (v:=?_) (a':=?_) #[true,true,true,true,true,true,true,true,false,true,true,false,false,false,false,false,false] rfl rfl (by kernel_rfl) (fun _ _ _ h=>h) (Or.inl ⟨by rfl,?_⟩) ?_ ?_
      rotate_left;(intro w';go_simp;with_reducible rfl);rotate_left;(simp only [Act.put,List.setIfInBounds_toArray,List.set_cons_zero,List.set_cons_succ,i64_w,i32_w];rfl)
      refine pure_ (i:=11) (N:=some 29) (v:=?_) (a':=?_) #[true,true,true,true,true,true,true,true,false,true,true,true,false,false,false,false,false] rfl rfl (by kernel_rfl) (fun _ _ _ h=>h) (Or.inl ⟨by rfl,?_⟩) ?_ ?_
      rotate_left;(intro w';go_simp;with_reducible rfl);rotate_left;(simp only [Act.put,List.setIfInBounds_toArray,List.set_cons_zero,List.set_cons_succ,i64_w,i32_w];rfl)
      refine pure_ (i:=12) (N:=some 30) (v:=?_) (a':=?_) #[true,true,true,true,true,true,true,true,false,true,true,true,true,false,false,false,false] rfl rfl (by kernel_rfl) (fun _ _ _ h=>h) (Or.inl ⟨by rfl,?_⟩) ?_ ?_
      rotate_left;(intro w';go_simp;with_reducible rfl);rotate_left;(simp only [Act.put,List.setIfInBounds_toArray,List.set_cons_zero,List.set_cons_succ,i64_w,i32_w];rfl)
      refine take_ (i:=8) (N:=some 26) (v:=?_) (a':=?_) #[true,true,true,true,true,true,true,true,true,true,true,true,true,false,false,false,false] rfl rfl (by kernel_rfl) (fun _ _ _ h=>h) (Or.inl ⟨by rfl,?_⟩) hHeld ?_ ?_
      rotate_left;(rintro w' ⟨s0,s1⟩;go_simp;with_reducible rfl);rotate_left;(simp only [Act.put,List.setIfInBounds_toArray,List.set_cons_zero,List.set_cons_succ,i64_w,i32_w];rfl)
      refine take_ (i:=13) (N:=some 31) (v:=?_) (a':=?_) #[true,true,true,true,true,true,true,true,true,true,true,true,true,true,false,false,false] rfl rfl (by kernel_rfl) (fun _ _ _ h=>h) (Or.inl ⟨by rfl,?_⟩) hHeld ?_ ?_
      rotate_left;(rintro w' ⟨s0,s1⟩;go_simp;with_reducible rfl);rotate_left;(simp only [Act.put,List.setIfInBounds_toArray,List.set_cons_zero,List.set_cons_succ,i64_w,i32_w];rfl)
      refine one_ (i:=14) (N:=some 32) #[true,true,true,true,true,true,true,true,true,true,true,true,true,true,true,false,false] rfl rfl (by kernel_rfl) (by decide) (fun K hK=>?_)
      refine goesC_ Try.func25 (by kernel_rfl) rfl #[.slice Ax nx cx,.slice Ay ny cy,.pointer (some ⟨gs,0,none⟩)] (by rfl) rfl rfl rfl (by simp only [List.map_toArray,List.map_cons,List.map_nil];rfl) ?_
      with_reducible refine (HCM.out _ HS.out.drew).mono ?_
      rintro e w3 ⟨rfl,hb⟩
      refine ⟨_,rfl,?_⟩
      have HB:=Aside0.mk (below_step HD.out hb)
      have HS3:=Aside0.mk (HS.out.drew.step hb)
      clear hb
      refine hK.out _ _ ⟨((HB.out.cell (World.block_lt_of_cell? wr _ hcx)).trans hcx),((HB.out.cell (World.block_lt_of_cell? wr _ hcy)).trans hcy)⟩ (fun hHeld=>?_)
      clear hK K
      refine norm_ (a':=?_) ?_ ?_
      rotate_left
      ·show Act.put _ (some 32) _=_
       simp only [Act.put,List.setIfInBounds_toArray,List.set_cons_zero,List.set_cons_succ,i64_w,i32_w]
       rfl
      refine pure_ (i:=15) (N:=some 33) (v:=?_) (a':=?_) #[true,true,true,true,true,true,true,true,true,true,true,true,true,true,true,true,false] rfl rfl (by kernel_rfl) (fun _ _ _ h=>h) (Or.inl ⟨by rfl,?_⟩) ?_ ?_
      rotate_left;(intro w';go_simp;with_reducible rfl);rotate_left;(simp only [Act.put,List.setIfInBounds_toArray,List.set_cons_zero,List.set_cons_succ,i64_w,i32_w];rfl)
      refine pure_ (i:=16) (N:=some 34) (v:=?_) (a':=?_) #[true,true,true,true,true,true,true,true,true,true,true,true,true,true,true,true,true] rfl rfl (by kernel_rfl) (fun _ _ _ h=>h) (Or.inl ⟨by rfl,?_⟩) ?_ ?_
      rotate_left;(intro w';go_simp;with_reducible rfl);rotate_left;(simp only [Act.put,List.setIfInBounds_toArray,List.set_cons_zero,List.set_cons_succ,i64_w,i32_w];rfl)
      refine done_ (by kernel_rfl) ?_
      clear hcx hcy HS HB HD HCM q0 q1 q2 q3 c0 c0b
      go_wp2
      go_roundg m1
      case measure=>have:=HM.out;omega
      case rel=>exact ⟨i + 1,r,by first|rfl|go_num,⟨by have:=HK.out;have:=HLT.out;have:=HM.out;have:=HJ.out;omega⟩,HS3,⟨by rw [HE2.out,HI2.out]⟩⟩
    ·have hI:=HI.out
     rw [show insIn 0 (ltC cf) a j r=r by cases j with
      | zero=>rfl
      | succ j=>rw [insIn,if_neg (fun h=>hja h.1)]] at hI
     have HI2:=Aside0.mk hI
     have c0 : decide ((j : Int) > (a : Int))=false:=decide_eq_false (by omega)
     have c0b : ((a : Int) < (j : Int))=False:=eq_false (by omega)
     have HS3:=Aside0.mk HS.out.drew
     clear hI HI HS hja
     try go_wp2_with fail
     refine start_ (n:=17) (S:=fun w'=>True) (ds:=[]) #[false,false,false,false,false,false,false,false,false,false,false,false,false,false,false,false,false] (by kernel_rfl) rfl rfl trivial (fun hHeld=>?_)
     refine pure_ (i:=0) (N:=some 18) (v:=?_) (a':=?_) #[true,false,false,false,false,false,false,false,false,false,false,false,false,false,false,false,false] rfl rfl (by kernel_rfl) (fun _ _ _ h=>h) (Or.inl ⟨by rfl,?_⟩) ?_ ?_
     rotate_left;(intro w';go_simp;with_reducible rfl);rotate_left;(simp only [Act.put,List.setIfInBounds_toArray,List.set_cons_zero,List.set_cons_succ,i64_w,i32_w];rfl)
     refine pure_ (i:=1) (N:=some 19) (v:=?_) (a':=?_) #[true,true,false,false,false,false,false,false,false,false,false,false,false,false,false,false,false] rfl rfl (by kernel_rfl) (fun _ _ _ h=>h) (Or.inl ⟨by rfl,?_⟩) ?_ ?_
     rotate_left;(intro w';go_simp;with_reducible rfl);rotate_left;(simp only [Act.put,List.setIfInBounds_toArray,List.set_cons_zero,List.set_cons_succ,i64_w,i32_w];rfl)
     refine pure_ (i:=2) (N:=some 20) (v:=?_) (a':=?_) #[true,true,true,false,false,false,false,false,false,false,false,false,false,false,false,false,false] rfl rfl (by kernel_rfl) (fun _ _ _ h=>h) (Or.inl ⟨by rfl,?_⟩) ?_ ?_
     rotate_left;(intro w';go_simp;with_reducible rfl);rotate_left;(simp only [Act.put,List.setIfInBounds_toArray,List.set_cons_zero,List.set_cons_succ,i64_w,i32_w];rfl)
     refine pure_ (i:=3) (N:=some 21) (v:=?_) (a':=?_) #[true,true,true,true,false,false,false,false,false,false,false,false,false,false,false,false,false] rfl rfl (by kernel_rfl) (fun _ _ _ h=>h) (Or.inl ⟨by rfl,?_⟩) ?_ ?_
     rotate_left;(intro w';go_simp;with_reducible rfl);rotate_left;(simp only [Act.put,List.setIfInBounds_toArray,List.set_cons_zero,List.set_cons_succ,i64_w,i32_w];rfl)
     refine pure_ (i:=4) (N:=some 22) (v:=undef) (a':=?_) #[true,true,true,true,true,false,false,false,false,false,false,false,false,false,false,false,false] rfl rfl (by kernel_rfl) (fun _ _ _ h=>h) (Or.inr ⟨by rfl,rfl⟩) ?_ ?_
     rotate_left
     ·simp only [Act.put,List.setIfInBounds_toArray,List.set_cons_zero,List.set_cons_succ,i64_w,i32_w]
      rfl
     refine pure_ (i:=5) (N:=some 23) (v:=undef) (a':=?_) #[true,true,true,true,true,true,false,false,false,false,false,false,false,false,false,false,false] rfl rfl (by kernel_rfl) (fun _ _ _ h=>h) (Or.inr ⟨by rfl,rfl⟩) ?_ ?_
     rotate_left
     ·simp only [Act.put,List.setIfInBounds_toArray,List.set_cons_zero,List.set_cons_succ,i64_w,i32_w]
      rfl
     refine pure_ (i:=6) (N:=some 24) (v:=undef) (a':=?_) #[true,true,true,true,true,true,true,false,false,false,false,false,false,false,false,false,false] rfl rfl (by kernel_rfl) (fun _ _ _ h=>h) (Or.inr ⟨by rfl,rfl⟩) ?_ ?_
     rotate_left
     ·simp only [Act.put,List.setIfInBounds_toArray,List.set_cons_zero,List.set_cons_succ,i64_w,i32_w]
      rfl
     refine pure_ (i:=7) (N:=some 25) (v:=undef) (a':=?_) #[true,true,true,true,true,true,true,true,false,false,false,false,false,false,false,false,false] rfl rfl (by kernel_rfl) (fun _ _ _ h=>h) (Or.inr ⟨by rfl,rfl⟩) ?_ ?_
     rotate_left
     ·simp only [Act.put,List.setIfInBounds_toArray,List.set_cons_zero,List.set_cons_succ,i64_w,i32_w]
      rfl
     refine pure_ (i:=8) (N:=some 26) (v:=undef) (a':=?_) #[true,true,true,true,true,true,true,true,true,false,false,false,false,false,false,false,false] rfl rfl (by kernel_rfl) (fun _ _ _ h=>h) (Or.inr ⟨by rfl,rfl⟩) ?_ ?_
     rotate_left
     ·simp only [Act.put,List.setIfInBounds_toArray,List.set_cons_zero,List.set_cons_succ,i64_w,i32_w]
      rfl
     refine pure_ (i:=9) (N:=some 27) (v:=undef) (a':=?_) #[true,true,true,true,true,true,true,true,true,true,false,false,false,false,false,false,false] rfl rfl (by kernel_rfl) (fun _ _ _ h=>h) (Or.inr ⟨by rfl,rfl⟩) ?_ ?_
     rotate_left
     ·simp only [Act.put,List.setIfInBounds_toArray,List.set_cons_zero,List.set_cons_succ,i64_w,i32_w]
      rfl
     refine pure_ (i:=10) (N:=some 28) (v:=undef) (a':=?_) #[true,true,true,true,true,true,true,true,true,true,true,false,false,false,false,false,false] rfl rfl (by kernel_rfl) (fun _ _ _ h=>h) (Or.inr ⟨by rfl,rfl⟩) ?_ ?_
     rotate_left
     ·simp only [Act.put,List.setIfInBounds_toArray,List.set_cons_zero,List.set_cons_succ,i64_w,i32_w]
      rfl
     refine pure_ (i:=11) (N:=some 29) (v:=undef) (a':=?_) #[true,true,true,true,true,true,true,true,true,true,true,true,false,false,false,false,false] rfl rfl (by kernel_rfl) (fun _ _ _ h=>h) (Or.inr ⟨by rfl,rfl⟩) ?_ ?_
     rotate_left
     ·simp only [Act.put,List.setIfInBounds_toArray,List.set_cons_zero,List.set_cons_succ,i64_w,i32_w]
      rfl
     refine pure_ (i:=12) (N:=some 30) (v:=undef) (a':=?_) #[true,true,true,true,true,true,true,true,true,true,true,true,true,false,false,false,false] rfl rfl (by kernel_rfl) (fun _ _ _ h=>h) (Or.inr ⟨by rfl,rfl⟩) ?_ ?_
     rotate_left
     ·simp only [Act.put,List.setIfInBounds_toArray,List.set_cons_zero,List.set_cons_succ,i64_w,i32_w]
      rfl
     refine pure_ (i:=13) (N:=some 31) (v:=undef) (a':=?_) #[true,true,true,true,true,true,true,true,true,true,true,true,true,true,false,false,false] rfl rfl (by kernel_rfl) (fun _ _ _ h=>h) (Or.inr ⟨by rfl,rfl⟩) ?_ ?_
     rotate_left
     ·simp only [Act.put,List.setIfInBounds_toArray,List.set_cons_zero,List.set_cons_succ,i64_w,i32_w]
      rfl
     refine pure_ (i:=14) (N:=some 32) (v:=undef) (a':=?_) #[true,true,true,true,true,true,true,true,true,true,true,true,true,true,true,false,false] rfl rfl (by kernel_rfl) (fun _ _ _ h=>h) (Or.inr ⟨by rfl,rfl⟩) ?_ ?_
     rotate_left
     ·simp only [Act.put,List.setIfInBounds_toArray,List.set_cons_zero,List.set_cons_succ,i64_w,i32_w]
      rfl
     refine pure_ (i:=15) (N:=some 33) (v:=undef) (a':=?_) #[true,true,true,true,true,true,true,true,true,true,true,true,true,true,true,true,false] rfl rfl (by kernel_rfl) (fun _ _ _ h=>h) (Or.inr ⟨by rfl,rfl⟩) ?_ ?_
     rotate_left
     ·simp only [Act.put,List.setIfInBounds_toArray,List.set_cons_zero,List.set_cons_succ,i64_w,i32_w]
      rfl
     refine pure_ (i:=16) (N:=some 34) (v:=?_) (a':=?_) #[true,true,true,true,true,true,true,true,true,true,true,true,true,true,true,true,true] rfl rfl (by kernel_rfl) (fun _ _ _ h=>h) (Or.inl ⟨by rfl,?_⟩) ?_ ?_
     rotate_left;(intro w';go_simp;with_reducible rfl);rotate_left;(simp only [Act.put,List.setIfInBounds_toArray,List.set_cons_zero,List.set_cons_succ,i64_w,i32_w];rfl)
     refine done_ (by kernel_rfl) ?_
     clear c0 c0b
     go_wp2
     go_roundg m1
     case measure=>have:=HM.out;omega
     case rel=>exact ⟨i + 1,r,by first|rfl|go_num,⟨by have:=HK.out;have:=HLT.out;have:=HM.out;have:=HJ.out;omega⟩,HS3,⟨by rw [HE2.out,HI2.out]⟩⟩
  ·have hltz : ¬ (i : Int) < (b : Int):=by omega
   have hE:=HE.out
   rw [HK.out.2.2.2.1 hlt] at hE
   have HE2:=Aside0.mk hE
   clear hE HE
   go_wp2
   go_end0
   exact ⟨rfl,by rw [HE2.out];exact HS.out⟩
end Go.Proofs.Ytojbeofipedolaa.P

