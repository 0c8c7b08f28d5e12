/- Texts of OrderPlaces. Merged: HOrdF. -/
import Derived.Test.YtojbeofipedolaaQOrderPlacesHOrdC
/- order.Sorted, by hand: slices.IsSortedFunc over its closure. -/
namespace Go.Proofs.Ytojbeofipedolaa.P
open Go.RowKit Go.Proofs.YtojbeofipedolaaW.PrintWords Go.Proofs.YtojbeofipedolaaW.PrintLast Go.Proofs.YtojbeofipedolaaW.PrintMore
set_option linter.unusedVariables false
set_option linter.unusedSimpArgs false
def dnOK (p : Nat→Bool) : Nat→Bool
 | 0=>true
 | i + 1=>!p i && dnOK p i
set_option maxHeartbeats 4000000 in
set_option maxRecDepth 100000 in
theorem sortedC_any (w : World) (gs : Nat) (A : Option Addr) (c : Nat) (T : List Int) (a b d : Int) (hT : Kd.C (Kd.int .i64) w A T.length T) (hc : T.length≤c) (hT8 : T.length≤1000000000) (W : World) (hs : W.heap[gs]?=some (.cells #[.slice A T.length c,.int .i64 a,.int .i64 b,.int .i64 d] 31 (0,0))) (hb : Below w.heap.size w W)
  (A1 : Option Addr) (c1 : Nat) (x : List XV) (h11 : Kd.C k41 w A1 x.length x) (h12 : x.length≤c1) (A2 : Option Addr) (c2 : Nat) (y : List XV) (h21 : Kd.C k41 w A2 y.length y) (h22 : y.length≤c2) :
  Calls Try.prog 32 #[.slice A1 x.length c1,.slice A2 y.length c2,.pointer (some ⟨gs,0,none⟩)] W fun e w'=>e=.returned (.int .i64 (cmpRow T a x y))∧Below W.heap.size W w':=by
 obtain ⟨kc,hkc⟩:=(scmp_ev T a b d x y hT8).rounds
 have HC:=Aside0.mk (schema_Compare.calls kc A c T a b d A1 c1 x A2 c2 y _ W (Kd.C_below hT hb) hc (Kd.C_below h11 hb) h12 (Kd.C_below h21 hb) h22 hkc)
 have h0 : W.cell? ⟨gs,0,none⟩=some (.slice A T.length c):=(blk_cell hs 0).trans rfl
 have h1 : W.cell? ⟨gs,1,none⟩=some (.int .i64 a):=(blk_cell hs 1).trans rfl
 have h2 : W.cell? ⟨gs,2,none⟩=some (.int .i64 b):=(blk_cell hs 2).trans rfl
 have h3 : W.cell? ⟨gs,3,none⟩=some (.int .i64 d):=(blk_cell hs 3).trans rfl
 clear hkc hs hT hc hb h11 h12 h21 h22
 go_enter Try.func32,Try.ntmps32
 go_wp2_with (go_at_call 26;refine HC.out.mono ?_;rintro e w9 ⟨rfl,hb⟩;have HZ:=Aside0.mk hb;clear hb)
 go_ret
 exact ⟨rfl,HZ.out⟩
set_option maxHeartbeats 8000000 in
set_option maxRecDepth 100000 in
theorem isSorted_any (w0 : World) (gs : Nat) (A : Option Addr) (c : Nat) (T : List Int) (a b d : Int) (hT : Kd.C (Kd.int .i64) w0 A T.length T) (hc : T.length≤c) (hT8 : T.length≤1000000000) (B : Option Addr) (cap n : Nat) (l : List (List XV)) (hM : Kd.C (Kd.slice 41 k41) w0 B l.length l) (hn : n=l.length) (hn9 : n≤1000000000)
  (w : World) (hs : w.heap[gs]?=some (.cells #[.slice A T.length c,.int .i64 a,.int .i64 b,.int .i64 d] 31 (0,0))) (hb : Below w0.heap.size w0 w) :
  Calls Try.prog 31 #[.slice B n cap,.func (.func 32) #[] #[.pointer (some ⟨gs,0,none⟩)]] w fun e w'=>e=.returned (.bool (dnOK (fun i=>decide (cmpRow T a (rdR l ((i + 1 : Nat) : Int)) (rdR l (i : Nat)) < 0)) (n - 1)))∧Below w0.heap.size w0 w':=by
 obtain ⟨p,hp⟩ : ∃ p : Nat→Bool,p=fun i=>decide (cmpRow T a (rdR l ((i + 1 : Nat) : Int)) (rdR l (i : Nat)) < 0):=⟨_,rfl⟩
 rw [← hp]
 obtain ⟨res,hres⟩ : ∃ res,res=dnOK p (n - 1):=⟨_,rfl⟩
 rw [← hres]
 have HW:=Aside0.mk (fun W (h1 : Below w.heap.size w W)=>And.intro (blk_below hs h1) (below_step hb h1))
 have HCL:=Aside0.mk (fun W h1 h2=>sortedC_any w0 gs A c T a b d hT hc hT8 W h1 h2)
 have HM:=Aside0.mk hM
 have HN:=Aside0.mk (And.intro hn hn9)
 have HP:=Aside0.mk hp
 have HR:=Aside0.mk hres
 have HB0:=Aside0.mk hb
 have HB:=Aside0.mk (Below.refl w.heap.size w)
 clear hs hb hT hM hp hres hc hn
 go_enter Try.func31,Try.ntmps31
 go_wp2
 go_loopg [5] n (fun gk v5 wr=>∃ iz : Int,v5=.int .i64 iz∧Aside0 (iz≤gk∧iz < n ∨ iz=-1)∧Aside0 (-1≤iz)∧Aside0 (Below w.heap.size w wr)∧Aside0 (res=dnOK p iz.toNat))
 case atStart=>exact ⟨(n : Int) - 1,by first|rfl|go_num,⟨by omega⟩,⟨by omega⟩,HB,⟨by rw [HR.out,show ((n : Int) - 1).toNat=n - 1 by omega]⟩⟩
 case round =>
  clear HB HR
  obtain ⟨iz,rfl,HK,HK2,HB,HE⟩:=hrel
  by_cases hlt : 0 < iz
  ·obtain ⟨j,rfl⟩ : ∃ j : Nat,iz=(j : Int):=⟨iz.toNat,by omega⟩
   obtain ⟨jp,hjp⟩ : ∃ q,j=q + 1:=⟨j - 1,by omega⟩
   have hjn : j < n:=by have:=HK.out;omega
   have hln:=HN.out.1
   obtain ⟨ad,Ax,cx,hBa,hcx0,hlx,hgx⟩:=at_L5 HM.out (j : Int) (by omega) (by omega)
   obtain ⟨ad',Ay,cy,hBb,hcy0,hly,hgy⟩:=at_L5 HM.out (jp : Int) (by omega) (by omega)
   obtain rfl : ad=ad':=by rw [hBa] at hBb;injection hBb
   subst hBa
   clear hBb
   simp only [Int.toNat_natCast] at hcx0 hcy0
   obtain ⟨x,hx⟩ : ∃ x,x=rdR l (j : Nat):=⟨_,rfl⟩
   obtain ⟨y,hy⟩ : ∃ x,x=rdR l (jp : Nat):=⟨_,rfl⟩
   rw [show rd_L5 l (j : Nat)=x from hx.symm] at hcx0 hlx hgx
   rw [show rd_L5 l (jp : Nat)=y from hy.symm] at hcy0 hly hgy
   obtain ⟨z,hz⟩ : ∃ z,z=cmpRow T a x y:=⟨_,rfl⟩
   have hpj : p jp=decide (z < 0):=by rw [HP.out,hz,hx,hy,hjp]
   have hcm : ∀ W,Below w.heap.size w W→Calls Try.prog 32 #[.slice Ax x.length cx,.slice Ay y.length cy,.pointer (some ⟨gs,0,none⟩)] W fun e w'=>e=.returned (.int .i64 z)∧Below W.heap.size W w':=fun W h=>by
    rw [hz];exact HCL.out W (HW.out W h).1 (HW.out W h).2 Ax cx x hgx hlx Ay cy y hgy hly
   have HCM:=Aside0.mk hcm
   have hcx : wr.cell? (ad.add j)=some (.slice Ax x.length cx):=((below_step HB0.out HB.out).cell (World.block_lt_of_cell? w0 _ hcx0)).trans hcx0
   have hcy : wr.cell? (ad.add jp)=some (.slice Ay y.length cy):=((below_step HB0.out HB.out).cell (World.block_lt_of_cell? w0 _ hcy0)).trans hcy0
   have ew : wrap64 ((j : Int) - 1)=(jp : Int):=by rw [w64 (by omega) (by omega)];omega
   have q0 : (0≤(j : Int))=True:=eq_true (by omega)
   have q1 : ((j : Int) < (n : Int))=True:=eq_true (by omega)
   have q2 : (0≤(jp : Int))=True:=eq_true (by omega)
   have q3 : ((jp : Int) < (n : Int))=True:=eq_true (by omega)
   have HD:=Aside0.mk (below_drew1 (Below.refl wr.heap.size wr))
   have HJP:=Aside0.mk hjp
   have hE:=HE.out
   rw [Int.toNat_natCast,hjp,dnOK,hpj] at hE
   have HJN:=Aside0.mk hjn
   clear hcm hx hy hz hpj hcx0 hcy0 hlx hly hgx hgy hln hjp HE hjn
   by_cases hlv : z < 0
   ·have c1 : decide (z < 0)=true:=decide_eq_true hlv
    rw [c1] at hE
    have HE2:=Aside0.mk hE
    clear hE hlv
    go_wp2_with fail
    refine start_ (n:=12) (S:=fun w'=>w'.cell? (ad.add j)=some (.slice Ax x.length cx)∧w'.cell? (ad.add jp)=some (.slice Ay y.length cy)) (ds:=[]) #[false,false,false,false,false,false,false,false,false,false,false,false] (by kernel_rfl) rfl rfl ⟨hcx,hcy⟩ (fun hHeld=>?_)
    refine pure_ (i:=0) (N:=some 13) (v:=?_) (a':=?_) #[true,false,false,false,false,false,false,false,false,false,false,false] rfl rfl (by kernel_rfl) (fun _ _ _ h=>h) (Or.inl ⟨by rfl,?_⟩) ?_ ?_
    rotate_left;(intro w';go_simp;with_reducible rfl);rotate_left;(simp only [Act.put,List.setIfInBounds_toArray,List.set_cons_zero,List.set_cons_succ,i64_w,i32_w];rfl)
    refine pure_ (i:=1) (N:=some 14) (v:=?_) (a':=?_) #[true,true,false,false,false,false,false,false,false,false,false,false] rfl rfl (by kernel_rfl) (fun _ _ _ h=>h) (Or.inl ⟨by rfl,?_⟩) ?_ ?_
    rotate_left;(intro w';go_simp;with_reducible rfl);rotate_left;(simp only [Act.put,List.setIfInBounds_toArray,List.set_cons_zero,List.set_cons_succ,i64_w,i32_w];rfl)
    refine pure_ (i:=2) (N:=some 15) (v:=?_) (a':=?_) #[true,true,true,false,false,false,false,false,false,false,false,false] rfl rfl (by kernel_rfl) (fun _ _ _ h=>h) (Or.inl ⟨by rfl,?_⟩) ?_ ?_
    rotate_left;(intro w';go_simp;with_reducible rfl);rotate_left;(simp only [Act.put,List.setIfInBounds_toArray,List.set_cons_zero,List.set_cons_succ,i64_w,i32_w];rfl)
    refine pure_ (i:=3) (N:=some 16) (v:=?_) (a':=?_) #[true,true,true,true,false,false,false,false,false,false,false,false] rfl rfl (by kernel_rfl) (fun _ _ _ h=>h) (Or.inl ⟨by rfl,?_⟩) ?_ ?_
    rotate_left;(intro w';go_simp;with_reducible rfl);rotate_left;(simp only [Act.put,List.setIfInBounds_toArray,List.set_cons_zero,List.set_cons_succ,i64_w,i32_w];rfl)
    refine pure_ (i:=5) (N:=some 18) (v:=?_) (a':=?_) #[true,true,true,true,false,true,false,false,false,false,false,false] rfl rfl (by kernel_rfl) (fun _ _ _ h=>h) (Or.inl ⟨by rfl,?_⟩) ?_ ?_
    rotate_left;(intro w';go_simp;with_reducible rfl);rotate_left;(simp only [Act.put,List.setIfInBounds_toArray,List.set_cons_zero,List.set_cons_succ,i64_w,i32_w];rfl)
    refine pure_ (i:=6) (N:=some 19) (v:=?_) (a':=?_) #[true,true,true,true,false,true,true,false,false,false,false,false] rfl rfl (by kernel_rfl) (fun _ _ _ h=>h) (Or.inl ⟨by rfl,?_⟩) ?_ ?_
    rotate_left;(intro w';go_simp;with_reducible rfl);rotate_left;(simp only [Act.put,List.setIfInBounds_toArray,List.set_cons_zero,List.set_cons_succ,i64_w,i32_w];rfl)
    refine pure_ (i:=7) (N:=some 20) (v:=?_) (a':=?_) #[true,true,true,true,false,true,true,true,false,false,false,false] rfl rfl (by kernel_rfl) (fun _ _ _ h=>h) (Or.inl ⟨by rfl,?_⟩) ?_ ?_
    rotate_left;(intro w';go_simp;with_reducible rfl);rotate_left;(simp only [Act.put,List.setIfInBounds_toArray,List.set_cons_zero,List.set_cons_succ,i64_w,i32_w];rfl)
    refine pure_ (i:=8) (N:=some 21) (v:=?_) (a':=?_) #[true,true,true,true,false,true,true,true,true,false,false,false] rfl rfl (by kernel_rfl) (fun _ _ _ h=>h) (Or.inl ⟨by rfl,?_⟩) ?_ ?_
    rotate_left;(intro w';go_simp;with_reducible rfl);rotate_left;(simp only [Act.put,List.setIfInBounds_toArray,List.set_cons_zero,List.set_cons_succ,i64_w,i32_w];rfl)
    refine take_ (i:=4) (N:=some 17) (v:=?_) (a':=?_) #[true,true,true,true,true,true,true,true,true,false,false,false] rfl rfl (by kernel_rfl) (fun _ _ _ h=>h) (Or.inl ⟨by rfl,?_⟩) hHeld ?_ ?_
    rotate_left;(rintro w' ⟨s0,s1⟩;go_simp;with_reducible rfl);rotate_left;(simp only [Act.put,List.setIfInBounds_toArray,List.set_cons_zero,List.set_cons_succ,i64_w,i32_w];rfl)
    refine take_ (i:=9) (N:=some 22) (v:=?_) (a':=?_) #[true,true,true,true,true,true,true,true,true,true,false,false] rfl rfl (by kernel_rfl) (fun _ _ _ h=>h) (Or.inl ⟨by rfl,?_⟩) hHeld ?_ ?_
    rotate_left;(rintro w' ⟨s0,s1⟩;go_simp;with_reducible rfl);rotate_left;(simp only [Act.put,List.setIfInBounds_toArray,List.set_cons_zero,List.set_cons_succ,i64_w,i32_w];rfl)
    refine one_ (i:=10) (N:=some 23) #[true,true,true,true,true,true,true,true,true,true,true,false] rfl rfl (by kernel_rfl) (by decide) (fun K hK=>?_)
    refine goesC_ Try.func32 (by kernel_rfl) rfl #[.slice Ax x.length cx,.slice Ay y.length cy,.pointer (some ⟨gs,0,none⟩)] (by rfl) rfl rfl rfl (by simp only [List.map_toArray,List.map_cons,List.map_nil];rfl) ?_
    with_reducible refine (HCM.out _ (below_drew1 HB.out)).mono ?_
    rintro e w3 ⟨rfl,hb⟩
    refine ⟨_,rfl,?_⟩
    have HB4:=Aside0.mk (below_step HD.out hb)
    have HB3:=Aside0.mk (below_step (below_drew1 HB.out) hb)
    clear hb
    refine hK.out _ _ ⟨((HB4.out.cell (World.block_lt_of_cell? wr _ hcx)).trans hcx),((HB4.out.cell (World.block_lt_of_cell? wr _ hcy)).trans hcy)⟩ (fun hHeld=>?_)
    clear hK K
    refine norm_ (a':=?_) ?_ ?_
    rotate_left
    ·show Act.put _ (some 23) _=_
     simp only [Act.put,List.setIfInBounds_toArray,List.set_cons_zero,List.set_cons_succ,i64_w,i32_w]
     rfl
    refine pure_ (i:=11) (N:=some 24) (v:=?_) (a':=?_) #[true,true,true,true,true,true,true,true,true,true,true,true] rfl rfl (by kernel_rfl) (fun _ _ _ h=>h) (Or.inl ⟨by rfl,?_⟩) ?_ ?_
    rotate_left;(intro w';go_simp;with_reducible rfl);rotate_left;(simp only [Act.put,List.setIfInBounds_toArray,List.set_cons_zero,List.set_cons_succ,i64_w,i32_w];rfl)
    refine done_ (by kernel_rfl) ?_
    clear hcx hcy HB HD HCM q0 q1 q2 q3
    go_wp2
    go_ret
    exact ⟨by rw [HE2.out];rfl,below_step HB0.out HB3.out⟩
   ·have c1 : decide (z < 0)=false:=decide_eq_false hlv
    rw [c1] at hE
    have HE2:=Aside0.mk hE
    clear hE hlv
    go_wp2_with fail
    refine start_ (n:=12) (S:=fun w'=>w'.cell? (ad.add j)=some (.slice Ax x.length cx)∧w'.cell? (ad.add jp)=some (.slice Ay y.length cy)) (ds:=[]) #[false,false,false,false,false,false,false,false,false,false,false,false] (by kernel_rfl) rfl rfl ⟨hcx,hcy⟩ (fun hHeld=>?_)
    refine pure_ (i:=0) (N:=some 13) (v:=?_) (a':=?_) #[true,false,false,false,false,false,false,false,false,false,false,false] rfl rfl (by kernel_rfl) (fun _ _ _ h=>h) (Or.inl ⟨by rfl,?_⟩) ?_ ?_
    rotate_left;(intro w';go_simp;with_reducible rfl);rotate_left;(simp only [Act.put,List.setIfInBounds_toArray,List.set_cons_zero,List.set_cons_succ,i64_w,i32_w];rfl)
    refine pure_ (i:=1) (N:=some 14) (v:=?_) (a':=?_) #[true,true,false,false,false,false,false,false,false,false,false,false] rfl rfl (by kernel_rfl) (fun _ _ _ h=>h) (Or.inl ⟨by rfl,?_⟩) ?_ ?_
    rotate_left;(intro w';go_simp;with_reducible rfl);rotate_left;(simp only [Act.put,List.setIfInBounds_toArray,List.set_cons_zero,List.set_cons_succ,i64_w,i32_w];rfl)
    refine pure_ (i:=2) (N:=some 15) (v:=?_) (a':=?_) #[true,true,true,false,false,false,false,false,false,false,false,false] rfl rfl (by kernel_rfl) (fun _ _ _ h=>h) (Or.inl ⟨by rfl,?_⟩) ?_ ?_
    rotate_left;(intro w';go_simp;with_reducible rfl);rotate_left;(simp only [Act.put,List.setIfInBounds_toArray,List.set_cons_zero,List.set_cons_succ,i64_w,i32_w];rfl)
    refine pure_ (i:=3) (N:=some 16) (v:=?_) (a':=?_) #[true,true,true,true,false,false,false,false,false,false,false,false] rfl rfl (by kernel_rfl) (fun _ _ _ h=>h) (Or.inl ⟨by rfl,?_⟩) ?_ ?_
    rotate_left;(intro w';go_simp;with_reducible rfl);rotate_left;(simp only [Act.put,List.setIfInBounds_toArray,List.set_cons_zero,List.set_cons_succ,i64_w,i32_w];rfl)
    refine pure_ (i:=5) (N:=some 18) (v:=?_) (a':=?_) #[true,true,true,true,false,true,false,false,false,false,false,false] rfl rfl (by kernel_rfl) (fun _ _ _ h=>h) (Or.inl ⟨by rfl,?_⟩) ?_ ?_
    rotate_left;(intro w';go_simp;with_reducible rfl);rotate_left;(simp only [Act.put,List.setIfInBounds_toArray,List.set_cons_zero,List.set_cons_succ,i64_w,i32_w];rfl)
    refine pure_ (i:=6) (N:=some 19) (v:=?_) (a':=?_) #[true,true,true,true,false,true,true,false,false,false,false,false] rfl rfl (by kernel_rfl) (fun _ _ _ h=>h) (Or.inl ⟨by rfl,?_⟩) ?_ ?_
    rotate_left;(intro w';go_simp;with_reducible rfl);rotate_left;(simp only [Act.put,List.setIfInBounds_toArray,List.set_cons_zero,List.set_cons_succ,i64_w,i32_w];rfl)
    refine pure_ (i:=7) (N:=some 20) (v:=?_) (a':=?_) #[true,true,true,true,false,true,true,true,false,false,false,false] rfl rfl (by kernel_rfl) (fun _ _ _ h=>h) (Or.inl ⟨by rfl,?_⟩) ?_ ?_
    rotate_left;(intro w';go_simp;with_reducible rfl);rotate_left;(simp only [Act.put,List.setIfInBounds_toArray,List.set_cons_zero,List.set_cons_succ,i64_w,i32_w];rfl)
    refine pure_ (i:=8) (N:=some 21) (v:=?_) (a':=?_) #[true,true,true,true,false,true,true,true,true,false,false,false] rfl rfl (by kernel_rfl) (fun _ _ _ h=>h) (Or.inl ⟨by rfl,?_⟩) ?_ ?_
    rotate_left;(intro w';go_simp;with_reducible rfl);rotate_left;(simp only [Act.put,List.setIfInBounds_toArray,List.set_cons_zero,List.set_cons_succ,i64_w,i32_w];rfl)
    refine take_ (i:=4) (N:=some 17) (v:=?_) (a':=?_) #[true,true,true,true,true,true,true,true,true,false,false,false] rfl rfl (by kernel_rfl) (fun _ _ _ h=>h) (Or.inl ⟨by rfl,?_⟩) hHeld ?_ ?_
    rotate_left;(rintro w' ⟨s0,s1⟩;go_simp;with_reducible rfl);rotate_left;(simp only [Act.put,List.setIfInBounds_toArray,List.set_cons_zero,List.set_cons_succ,i64_w,i32_w];rfl)
    refine take_ (i:=9) (N:=some 22) (v:=?_) (a':=?_) #[true,true,true,true,true,true,true,true,true,true,false,false] rfl rfl (by kernel_rfl) (fun _ _ _ h=>h) (Or.inl ⟨by rfl,?_⟩) hHeld ?_ ?_
    rotate_left;(rintro w' ⟨s0,s1⟩;go_simp;with_reducible rfl);rotate_left;(simp only [Act.put,List.setIfInBounds_toArray,List.set_cons_zero,List.set_cons_succ,i64_w,i32_w];rfl)
    refine one_ (i:=10) (N:=some 23) #[true,true,true,true,true,true,true,true,true,true,true,false] rfl rfl (by kernel_rfl) (by decide) (fun K hK=>?_)
    refine goesC_ Try.func32 (by kernel_rfl) rfl #[.slice Ax x.length cx,.slice Ay y.length cy,.pointer (some ⟨gs,0,none⟩)] (by rfl) rfl rfl rfl (by simp only [List.map_toArray,List.map_cons,List.map_nil];rfl) ?_
    with_reducible refine (HCM.out _ (below_drew1 HB.out)).mono ?_
    rintro e w3 ⟨rfl,hb⟩
    refine ⟨_,rfl,?_⟩
    have HB4:=Aside0.mk (below_step HD.out hb)
    have HB3:=Aside0.mk (below_step (below_drew1 HB.out) hb)
    clear hb
    refine hK.out _ _ ⟨((HB4.out.cell (World.block_lt_of_cell? wr _ hcx)).trans hcx),((HB4.out.cell (World.block_lt_of_cell? wr _ hcy)).trans hcy)⟩ (fun hHeld=>?_)
    clear hK K
    refine norm_ (a':=?_) ?_ ?_
    rotate_left
    ·show Act.put _ (some 23) _=_
     simp only [Act.put,List.setIfInBounds_toArray,List.set_cons_zero,List.set_cons_succ,i64_w,i32_w]
     rfl
    refine pure_ (i:=11) (N:=some 24) (v:=?_) (a':=?_) #[true,true,true,true,true,true,true,true,true,true,true,true] rfl rfl (by kernel_rfl) (fun _ _ _ h=>h) (Or.inl ⟨by rfl,?_⟩) ?_ ?_
    rotate_left;(intro w';go_simp;with_reducible rfl);rotate_left;(simp only [Act.put,List.setIfInBounds_toArray,List.set_cons_zero,List.set_cons_succ,i64_w,i32_w];rfl)
    refine done_ (by kernel_rfl) ?_
    clear hcx hcy HB HD HCM q0 q1 q2 q3
    go_wp2
    go_roundg jp
    case measure=>have:=HK.out;have:=HJP.out;omega
    case rel=>exact ⟨(jp : Int),by first|rfl|(congr 1;done)|(congr 1;have:=HJP.out;omega),⟨by have:=HJP.out;have:=HJN.out;omega⟩,⟨by omega⟩,HB3,⟨by rw [HE2.out,Int.toNat_natCast];rfl⟩⟩
  ·have hltz : ¬ (0 : Int) < iz:=hlt
   have hE:=HE.out
   rw [show iz.toNat=0 by omega,dnOK] at hE
   have HE2:=Aside0.mk hE
   clear hE HE
   go_wp2
   go_ret
   exact ⟨by rw [HE2.out];rfl,below_step HB0.out HB.out⟩
def order_Sorted.f (k : Nat) (T : List Int) (a b d : Int) (l : List (List XV)) : Option Bool:=if T.length≤1000000000∧l.length≤1000000000 then some (dnOK (fun i=>decide (cmpRow T a (rdR l ((i + 1 : Nat) : Int)) (rdR l (i : Nat)) < 0)) (l.length - 1)) else none
theorem order_Sorted.mono : ∀ T a b d l k,LeO (order_Sorted.f k T a b d l) (order_Sorted.f (k + 1) T a b d l):=fun _ _ _ _ _ _=>LeO.refl _
set_option maxHeartbeats 8000000 in
set_option maxRecDepth 100000 in
theorem order_Sorted.calls (k : Nat) (A : Option Addr) (c : Nat) (T : List Int) (a b d : Int) (B : Option Addr) (e : Nat) (l : List (List XV)) (r : Bool) (w : World)
  (hT : Kd.C (Kd.int .i64) w A T.length T) (hc : T.length≤c) (hM : Kd.C (Kd.slice 41 k41) w B l.length l) (he : l.length≤e)
  (h : order_Sorted.f k T a b d l=some r) :
  Calls Try.prog 18 #[.agg #[.slice A T.length c,.int .i64 a,.int .i64 b,.int .i64 d],.slice B l.length e] w fun e w'=>e=.returned (.bool r)∧Below w.heap.size w w':=by
 unfold order_Sorted.f at h
 split at h
 case isFalse=>exact absurd h (by simp)
 case isTrue hn =>
 injection h with h
 have hfin : ∀ W gs,W.heap[gs]?=some (.cells #[.slice A T.length c,.int .i64 a,.int .i64 b,.int .i64 d] 31 (0,0))→Below w.heap.size w W→Calls Try.prog 31 #[.slice B l.length e,.func (.func 32) #[] #[.pointer (some ⟨gs,0,none⟩)]] W fun e w'=>e=.returned (.bool r)∧Below w.heap.size w w':=fun W gs h1 h2=>by
  rw [← h];exact isSorted_any w gs A c T a b d hT hc hn.1 B e l.length l hM rfl hn.2 W h1 h2
 have HFIN:=Aside0.mk hfin
 clear hfin h hn hM hT hc he
 have HB:=Aside0.mk (Below.refl w.heap.size w)
 go_enter Try.func18,Try.ntmps18
 go_wp2_with (first|((with_reducible refine gate_dst (N:=2) rfl ?_);refine box_event ?hg (N:=2) ?hd (cs:=#[.slice A T.length c,.int .i64 a,.int .i64 b,.int .i64 d]) (t:=31) ?hr ?_;(case hd=>rfl);(case hg=>rfl);(case hr=>first|(go_simp;done)|(go_simp;rfl));intro gs hg w4 hbox hb;have nb_:=Aside0.mk (below_step HB.out hb);have nh_:=Aside0.mk hbox;have ng_:=Aside0.mk ((by rw [hg];exact below_size HB.out) : w.heap.size≤gs);clear HB;have HB:=nb_;have BKgs:=nh_;have GEgs:=ng_;clear nb_ nh_ ng_;clear hb hbox hg)|(go_at_call 31;refine (HFIN.out _ gs BKgs.out HB.out).mono ?_;rintro e9 w9 ⟨rfl,hb⟩;have HZ:=Aside0.mk hb;clear hb))
 go_ret
 exact ⟨rfl,HZ.out⟩
end Go.Proofs.Ytojbeofipedolaa.P

