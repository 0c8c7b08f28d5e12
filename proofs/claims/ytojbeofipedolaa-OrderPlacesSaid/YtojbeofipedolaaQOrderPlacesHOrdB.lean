/- Texts of OrderPlaces. Merged: HOrdB. -/
import Derived.Test.YtojbeofipedolaaQOrderPlacesXVCmp
import Derived.Test.YtojbeofipedolaaQOrderPlacesXStable
import Derived.Shelf.RegionOpenPlain
/- slices.SortStableFunc over order.Sort's closure, by hand: the world, the closure, and the swaps. -/
namespace Go.Proofs.Ytojbeofipedolaa.P
open Go.RowKit Go.Proofs.YtojbeofipedolaaW.PrintWords Go.Proofs.YtojbeofipedolaaW.PrintLast Go.Proofs.YtojbeofipedolaaW.PrintMore
set_option linter.unusedVariables false
set_option linter.unusedSimpArgs false
structure SW0 (w0 W : World) (gs go : Nat) (cs : Array Value) (V : Nat→Value) (p : List Nat) : Prop where
 s : W.heap[gs]?=some (.cells cs 31 (0,0))
 r : W.heap[go]?=some (.cells (p.map V).toArray 27 (0,0))
 b : Below w0.heap.size w0 W
 gs0 : w0.heap.size≤gs
 go0 : w0.heap.size≤go
theorem SW0.step {w0 W W' : World} {gs go : Nat} {cs : Array Value} {V : Nat→Value} {p : List Nat} (h : SW0 w0 W gs go cs V p) (hb : Below W.heap.size W W') : SW0 w0 W' gs go cs V p :=
 ⟨blk_below h.s hb,blk_below h.r hb,below_step h.b hb,h.gs0,h.go0⟩
theorem SW0.drew {w0 W : World} {gs go : Nat} {cs : Array Value} {V : Nat→Value} {p : List Nat} (h : SW0 w0 W gs go cs V p) : SW0 w0 W.drew gs go cs V p:=h.step (below_drew1 (Below.refl _ _))
theorem SW0.cell {w0 W : World} {gs go : Nat} {cs : Array Value} {V : Nat→Value} {p : List Nat} (h : SW0 w0 W gs go cs V p) (i : Nat) (hi : i < p.length) : W.cell? ⟨go,i,none⟩=some (V (gt_ 0 p i)):=by
 rw [blk_cell h.r i,gt_lt 0 hi]
 simp [hi]
theorem SW0.frozen {w0 W : World} {gs go : Nat} {cs : Array Value} {V : Nat→Value} {p : List Nat} (h : SW0 w0 W gs go cs V p) (i : Nat) : W.frozen? ⟨go,i,none⟩=false:=blk_frozen h.r i
theorem SW0.set {w0 W : World} {gs go : Nat} {cs : Array Value} {V : Nat→Value} {p : List Nat} (h : SW0 w0 W gs go cs V p) (i x : Nat) : SW0 w0 (W.setCell ⟨go,i,none⟩ (V x)) gs go cs V (p.set i x):=by
 refine ⟨blk_far h.s ?_ _,?_,h.b.setCell h.go0 _,h.gs0,h.go0⟩
 ·exact blk_ne h.s h.r (by decide)
 ·have:=blk_set h.r i (V x)
  rw [this,List.map_set]
  simp
theorem SW0.swap {w0 W : World} {gs go : Nat} {cs : Array Value} {V : Nat→Value} {p : List Nat} (h : SW0 w0 W gs go cs V p) (i j : Nat) : SW0 w0 ((W.setCell ⟨go,i,none⟩ (V (gt_ 0 p j))).setCell ⟨go,j,none⟩ (V (gt_ 0 p i))).drew gs go cs V (swp 0 p i j) :=
 ((h.set i (gt_ 0 p j)).set j (gt_ 0 p i)).drew
theorem SW0.cell2 {w0 W : World} {gs go : Nat} {cs : Array Value} {V : Nat→Value} {p : List Nat} (h : SW0 w0 W gs go cs V p) (i j x : Nat) (hj : j < p.length) : ∃ u,(W.setCell ⟨go,i,none⟩ (V x)).cell? ⟨go,j,none⟩=some u :=
 ⟨_,(h.set i x).cell j (by rw [List.length_set];exact hj)⟩
structure RowsAt (w0 : World) (V : Nat→Value) (X : Nat→List XV) : Prop where
 v : ∀ i,∃ A c,V i=.slice A (X i).length c∧Kd.C k41 w0 A (X i).length (X i)∧(X i).length≤c
def FV (gs : Nat) : Value:=.func (.func 25) #[] #[.pointer (some ⟨gs,0,none⟩)]
def CmpOk (w0 : World) (gs go : Nat) (cs : Array Value) (V : Nat→Value) (cf : Nat→Nat→Int) : Prop :=
 ∀ (W : World) (p : List Nat),SW0 w0 W gs go cs V p→∀ i j,Calls Try.prog 25 #[V i,V j,.pointer (some ⟨gs,0,none⟩)] W fun e w'=>e=.returned (.int .i64 (cf i j))∧Below W.heap.size W w'
set_option maxHeartbeats 4000000 in
set_option maxRecDepth 100000 in
theorem sortC_any (w0 : World) (gs go : Nat) (V : Nat→Value) (X : Nat→List XV) (A : Option Addr) (c : Nat) (T : List Int) (a b d : Int) (hT : Kd.C (Kd.int .i64) w0 A T.length T) (hc : T.length≤c) (hT8 : T.length≤1000000000) (hV : RowsAt w0 V X) :
  CmpOk w0 gs go #[.slice A T.length c,.int .i64 a,.int .i64 b,.int .i64 d] V (fun i j=>cmpRow T a (X i) (X j)):=by
 intro w p hS i j
 obtain ⟨kc,hkc⟩:=(scmp_ev T a b d (X i) (X j) hT8).rounds
 obtain ⟨A1,c1,e1,h11,h12⟩:=hV.v i
 obtain ⟨A2,c2,e2,h21,h22⟩:=hV.v j
 rw [e1,e2]
 have HC:=Aside0.mk (schema_Compare.calls kc A c T a b d A1 c1 (X i) A2 c2 (X j) _ w (Kd.C_below hT hS.b) hc (Kd.C_below h11 hS.b) h12 (Kd.C_below h21 hS.b) h22 hkc)
 have h0 : w.cell? ⟨gs,0,none⟩=some (.slice A T.length c):=(blk_cell hS.s 0).trans rfl
 have h1 : w.cell? ⟨gs,1,none⟩=some (.int .i64 a):=(blk_cell hS.s 1).trans rfl
 have h2 : w.cell? ⟨gs,2,none⟩=some (.int .i64 b):=(blk_cell hS.s 2).trans rfl
 have h3 : w.cell? ⟨gs,3,none⟩=some (.int .i64 d):=(blk_cell hS.s 3).trans rfl
 clear hkc hS hT hc hV h11 h12 h21 h22 e1 e2
 go_enter Try.func25,Try.ntmps25
 go_wp2_with (go_at_call 26;refine HC.out.mono ?_;rintro e w9 ⟨rfl,hb⟩;have HZ:=Aside0.mk hb;clear hb)
 go_ret
 exact ⟨rfl,HZ.out⟩
set_option maxHeartbeats 4000000 in
set_option maxRecDepth 100000 in
theorem swapRange_any (w0 : World) (gs go : Nat) (cs : Array Value) (V : Nat→Value) (hV1 : ∀ i,∃ A n c,V i=.slice A n c) (n cap a b d : Nat) (p : List Nat) (w : World) (hS : SW0 w0 w gs go cs V p) (hp : p.length=n) (ha : a + d≤n) (hb : b + d≤n) (hn : n≤1000000000) :
  Calls Try.prog 48 #[.slice (some ⟨go,0,none⟩) n cap,.int .i64 a,.int .i64 b,.int .i64 d,FV gs] w fun e w'=>e=.returned (.tuple #[])∧SW0 w0 w' gs go cs V (swapR 0 a b d 0 p):=by
 unfold FV
 have HS:=Aside0.mk hS
 have HV1:=Aside0.mk hV1
 clear hS hV1
 go_enter Try.func48,Try.ntmps48
 go_wp2
 go_loopg [10] d (fun gk v wr=>∃ (i : Nat) (q : List Nat),v=.int .i64 i∧Aside0 (i + gk=d)∧Aside0 (q.length=n)∧Aside0 (SW0 w0 wr gs go cs V q)∧Aside0 (swapR 0 a b d 0 p=swapR 0 a b gk i q))
 case atStart=>exact ⟨0,p,rfl,⟨by omega⟩,⟨hp⟩,HS,⟨rfl⟩⟩
 case round =>
  clear HS
  obtain ⟨i,q,rfl,HK,HQ,HS,HE⟩:=hrel
  by_cases hlt : i < d
  ·obtain ⟨m1,hm1⟩ : ∃ m,gk=m + 1:=⟨gk - 1,by have:=HK.out;omega⟩
   have HM:=Aside0.mk hm1
   have hE:=HE.out
   rw [hm1] at hE
   have HE2:=Aside0.mk hE
   clear hm1 hE HE
   have wx : wrap64 ((a : Int) + (i : Int))=(a : Int) + (i : Int):=w64 (by omega) (by omega)
   have wy : wrap64 ((b : Int) + (i : Int))=(b : Int) + (i : Int):=w64 (by omega) (by omega)
   have hxn : a + i < q.length:=by have:=HQ.out;omega
   have hyn : b + i < q.length:=by have:=HQ.out;omega
   have qx : ((a : Int) + (i : Int) < (n : Int)):=by have:=HQ.out;omega
   have qy : ((b : Int) + (i : Int) < (n : Int)):=by have:=HQ.out;omega
   obtain ⟨Ax,nx,cx,hvx⟩:=HV1.out (gt_ 0 q (a + i))
   obtain ⟨Ay,ny,cy,hvy⟩:=HV1.out (gt_ 0 q (b + i))
   replace hvx:=hvx.symm
   replace hvy:=hvy.symm
   have S3:=Aside0.mk (show SW0 w0 ((wr.setCell ⟨go,a + i,none⟩ (.slice Ay ny cy)).setCell ⟨go,b + i,none⟩ (.slice Ax nx cx)).drew gs go cs V (swp 0 q (a + i) (b + i)) by rw [hvx,hvy];exact HS.out.swap (a + i) (b + i))
   have hcx : wr.cell? ⟨go,a + i,none⟩=some (.slice Ax nx cx):=by rw [hvx];exact HS.out.cell (a + i) hxn
   have hcy : wr.cell? ⟨go,b + i,none⟩=some (.slice Ay ny cy):=by rw [hvy];exact HS.out.cell (b + i) hyn
   have hfx:=HS.out.frozen (a + i)
   have hfy:=HS.out.frozen (b + i)
   obtain ⟨u,hu⟩ : ∃ u,(wr.setCell ⟨go,a + i,none⟩ (.slice Ay ny cy)).cell? ⟨go,b + i,none⟩=some u:=by rw [hvy];exact HS.out.cell2 (a + i) (b + i) _ hyn
   have HL:=Aside0.mk (And.intro hlt (And.intro hxn hyn))
   clear hvx hvy HS hxn hyn
   have hltz : (i : Int) < (d : Int):=by omega
   clear hlt
   have mixed : Try.prog.follows Departure.mixedOrders=true:=rfl
   go_wp2_with fail
   go_big_region_o
   clear hcx hcy hfx hfy hu
   generalize ((wr.setCell ⟨go,a + i,none⟩ (.slice Ay ny cy)).setCell ⟨go,b + i,none⟩ (.slice Ax nx cx)).drew=w3 at S3 ⊢
   go_wp2
   go_roundg m1
   case measure=>have:=HM.out;omega
   case rel=>exact ⟨i + 1,swp 0 q (a + i) (b + i),by first|rfl|go_num,⟨by have:=HK.out;have:=HM.out;omega⟩,⟨by rw [swp_length];exact HQ.out⟩,S3,⟨by rw [HE2.out];rfl⟩⟩
  ·have hltz : ¬ (i : Int) < (d : Int):=by omega
   have hE:=HE.out
   rw [show gk=0 by have:=HK.out;omega] at hE
   have HE2:=Aside0.mk hE
   clear hE HE
   go_wp2
   go_end0
   exact ⟨rfl,by rw [HE2.out];exact HS.out⟩
theorem swapRange_z (w0 : World) (gs go : Nat) (cs : Array Value) (V : Nat→Value) (hV1 : ∀ i,∃ A n c,V i=.slice A n c) (n cap a b d : Nat) (p : List Nat) (w : World) (hS : SW0 w0 w gs go cs V p) (az bz dz : Int) (h : p.length=n∧a + d≤n∧b + d≤n∧n≤1000000000∧az=a∧bz=b∧dz=d) :
  Calls Try.prog 48 #[.slice (some ⟨go,0,none⟩) n cap,.int .i64 az,.int .i64 bz,.int .i64 dz,.func (.func 25) #[] #[.pointer (some ⟨gs,0,none⟩)]] w fun e w'=>e=.returned (.tuple #[])∧SW0 w0 w' gs go cs V (swapR 0 a b d 0 p):=by
 obtain ⟨h1,h2,h3,h4,rfl,rfl,rfl⟩:=h
 exact swapRange_any w0 gs go cs V hV1 n cap a b d p w hS h1 h2 h3 h4
theorem swapR_length (a b : Nat) : ∀ (d i : Nat) (xs : List Nat),(swapR 0 a b d i xs).length=xs.length
 | 0,_,_=>rfl
 | d + 1,i,xs=>by show (swapR 0 a b d (i + 1) (swp 0 xs (a + i) (b + i))).length=_;rw [swapR_length,swp_length]
set_option maxHeartbeats 4000000 in
set_option maxRecDepth 100000 in
theorem rotate_any (w0 : World) (gs go : Nat) (cs : Array Value) (V : Nat→Value) (hV1 : ∀ i,∃ A n c,V i=.slice A n c) (n cap a m b : Nat) (p : List Nat) (w : World) (hS : SW0 w0 w gs go cs V p) (hp : p.length=n) (ha : a < m) (hm : m < b) (hb : b≤n) (hn : n≤1000000000) :
  Calls Try.prog 44 #[.slice (some ⟨go,0,none⟩) n cap,.int .i64 a,.int .i64 m,.int .i64 b,FV gs] w fun e w'=>e=.returned (.tuple #[])∧SW0 w0 w' gs go cs V (rot 0 m (b - a) (m - a) (b - m) p):=by
 unfold FV
 have HS:=Aside0.mk hS
 have HV1:=Aside0.mk hV1
 clear hS hV1
 go_enter Try.func44,Try.ntmps44
 go_wp2
 go_loopg [10,11] (b - a) (fun gk v10 v11 wr=>∃ (i j : Nat) (q : List Nat),v10=.int .i64 i∧v11=.int .i64 j∧Aside0 (i + j≤gk + 1∧0 < i∧0 < j∧a + i≤m∧m + j≤b∧q.length=n)∧Aside0 (SW0 w0 wr gs go cs V q)∧Aside0 (rot 0 m (b - a) (m - a) (b - m) p=rot 0 m gk i j q))
 case atStart=>exact ⟨m - a,b - m,p,by first|rfl|go_num|(congr 1;omega),by first|rfl|go_num|(congr 1;omega),⟨by omega⟩,HS,⟨rfl⟩⟩
 case round =>
  clear HS
  obtain ⟨i,j,q,rfl,rfl,HK,HS,HE⟩:=hrel
  obtain ⟨m1,hm1⟩ : ∃ m1,gk=m1 + 1:=⟨gk - 1,by have:=HK.out;omega⟩
  have HM:=Aside0.mk hm1
  have hE:=HE.out
  rw [hm1,rot] at hE
  have hib : (i : Int)≤1000000000:=by have:=HK.out;omega
  have hjb : (j : Int)≤1000000000:=by have:=HK.out;omega
  have hmb : (m : Int)≤1000000000:=by omega
  have him : (i : Int)≤(m : Int):=by have:=HK.out;omega
  by_cases hij : i=j
  ·rw [if_pos hij] at hE
   subst hij
   have HE2:=Aside0.mk hE
   clear hE HE hm1
   have SD:=Aside0.mk (show q.length=n∧(m - i) + i≤n∧m + i≤n∧n≤1000000000∧((m : Int) - (i : Int))=(m - i : Nat)∧(m : Int)=(m : Nat)∧(i : Int)=(i : Nat) by have:=HK.out;omega)
   go_wp2_with (go_at_call 48;refine (swapRange_z w0 gs go cs V HV1.out n cap (m - i) m i q _ HS.out _ _ _ SD.out).mono ?_;rintro e w9 ⟨rfl,h⟩;have HS9:=Aside0.mk h;clear h)
   go_end0
   exact ⟨rfl,by rw [HE2.out];exact HS9.out⟩
  ·rw [if_neg hij] at hE
   by_cases hji : j < i
   ·rw [if_pos hji] at hE
    have HE2:=Aside0.mk hE
    clear hE HE hm1
    have c0 : ((i : Int) != (j : Int))=true:=by rw [bne_iff_ne];omega
    have c1 : decide ((i : Int) > (j : Int))=true:=decide_eq_true (by omega)
    have SD:=Aside0.mk (show q.length=n∧(m - i) + j≤n∧m + j≤n∧n≤1000000000∧((m : Int) - (i : Int))=(m - i : Nat)∧(m : Int)=(m : Nat)∧(j : Int)=(j : Nat) by have:=HK.out;omega)
    have HJI:=Aside0.mk (And.intro hji hij)
    clear hij
    go_wp2_with (go_at_call 48;refine (swapRange_z w0 gs go cs V HV1.out n cap (m - i) m j q _ HS.out _ _ _ SD.out).mono ?_;rintro e w9 ⟨rfl,h⟩;have HS9:=Aside0.mk h;clear h)
    go_roundg m1
    case measure=>have:=HM.out;omega
    case rel=>exact ⟨i - j,j,_,by first|rfl|go_num|(congr 1;omega),rfl,⟨by have h:=HK.out;have h1:=HM.out;have h2:=HJI.out;rw [swapR_length];omega⟩,HS9,HE2⟩
   ·rw [if_neg hji] at hE
    have HE2:=Aside0.mk hE
    clear hE HE hm1
    have c0 : ((i : Int) != (j : Int))=true:=by rw [bne_iff_ne];omega
    have c1 : decide ((i : Int) > (j : Int))=false:=decide_eq_false (by omega)
    have SD:=Aside0.mk (show q.length=n∧(m - i) + i≤n∧(m + j - i) + i≤n∧n≤1000000000∧((m : Int) - (i : Int))=(m - i : Nat)∧(m : Int) + (j : Int) - (i : Int)=(m + j - i : Nat)∧(i : Int)=(i : Nat) by have:=HK.out;omega)
    have hlt : i < j:=by omega
    have HJI:=Aside0.mk (And.intro hlt hij)
    clear hij
    go_wp2_with (go_at_call 48;refine (swapRange_z w0 gs go cs V HV1.out n cap (m - i) (m + j - i) i q _ HS.out _ _ _ SD.out).mono ?_;rintro e w9 ⟨rfl,h⟩;have HS9:=Aside0.mk h;clear h)
    go_roundg m1
    case measure=>have:=HM.out;omega
    case rel=>exact ⟨i,j - i,_,rfl,by first|rfl|go_num|(congr 1;omega),⟨by have h:=HK.out;have h1:=HM.out;have h2:=HJI.out;rw [swapR_length];omega⟩,HS9,HE2⟩
end Go.Proofs.Ytojbeofipedolaa.P

