/- Texts of OrderPlaces. Merged: HOrdG. -/
import Derived.Test.YtojbeofipedolaaQOrderPlacesHOrdD
/- slices.stableCmpFunc over order.Sort's closure, by hand. -/
namespace Go.Proofs.Ytojbeofipedolaa.P
open Go.RowKit Go.Proofs.YtojbeofipedolaaW.PrintWords Go.Proofs.YtojbeofipedolaaW.PrintLast Go.Proofs.YtojbeofipedolaaW.PrintMore
set_option linter.unusedVariables false
set_option linter.unusedSimpArgs false
theorem symMerge_any (w0 : World) (gs go : Nat) (cs : Array Value) (V : Nat→Value) (hV1 : ∀ i,∃ A n c,V i=.slice A n c) (cf : Nat→Nat→Int) (hC : CmpOk w0 gs go cs V cf) (n cap : Nat) (hn : n≤1000000000) : ∀ (f a m b : Nat) (p : List Nat) (w : World),SW0 w0 w gs go cs V p→p.length=n→a < m→m < b→b≤n→b - a≤f →
  Calls Try.prog 38 #[.slice (some ⟨go,0,none⟩) n cap,.int .i64 a,.int .i64 m,.int .i64 b,FV gs] w fun e w'=>e=.returned (.tuple #[])∧SW0 w0 w' gs go cs V (symM 0 (ltC cf) f a m b p)
 | 0,a,m,b,p,w,hS,hp,h1,h2,h3,h4=>by omega
 | f + 1,a,m,b,p,w,hS,hp,h1,h2,h3,h4=>by
  by_cases q1 : m - a=1
  ·exact symOne_any w0 gs go cs V hV1 cf hC n cap hn f a m b p w hS hp h1 h2 h3 q1
  ·by_cases q2 : b - m=1
   ·exact symLast_any w0 gs go cs V hV1 cf hC n cap hn f a m b p w hS hp h1 h2 h3 q1 q2
   ·exact symRec_any w0 gs go cs V hV1 cf hC n cap hn f a m b p w hS hp h1 h2 h3 q1 q2 h4 (symMerge_any w0 gs go cs V hV1 cf hC n cap hn f)
theorem symMerge_z (w0 : World) (gs go : Nat) (cs : Array Value) (V : Nat→Value) (hV1 : ∀ i,∃ A n c,V i=.slice A n c) (cf : Nat→Nat→Int) (hC : CmpOk w0 gs go cs V cf) (n cap a m b : Nat) (p : List Nat) (w : World) (hS : SW0 w0 w gs go cs V p) (az mz bz : Int) (h : p.length=n∧a < m∧m < b∧b≤n∧n≤1000000000∧az=a∧mz=m∧bz=b) :
  Calls Try.prog 38 #[.slice (some ⟨go,0,none⟩) n cap,.int .i64 az,.int .i64 mz,.int .i64 bz,.func (.func 25) #[] #[.pointer (some ⟨gs,0,none⟩)]] w fun e w'=>e=.returned (.tuple #[])∧SW0 w0 w' gs go cs V (symM 0 (ltC cf) n a m b p):=by
 obtain ⟨h1,h2,h3,h4,h5,rfl,rfl,rfl⟩:=h
 exact symMerge_any w0 gs go cs V hV1 cf hC n cap h5 n a m b p w hS h1 h2 h3 h4 (by omega)
theorem insertion_z (w0 : World) (gs go : Nat) (cs : Array Value) (V : Nat→Value) (hV1 : ∀ i,∃ A n c,V i=.slice A n c) (cf : Nat→Nat→Int) (hC : CmpOk w0 gs go cs V cf) (n cap a b : Nat) (p : List Nat) (w : World) (hS : SW0 w0 w gs go cs V p) (az bz : Int) (h : p.length=n∧a≤b∧b≤n∧n≤1000000000∧az=a∧bz=b) :
  Calls Try.prog 37 #[.slice (some ⟨go,0,none⟩) n cap,.int .i64 az,.int .i64 bz,.func (.func 25) #[] #[.pointer (some ⟨gs,0,none⟩)]] w fun e w'=>e=.returned (.tuple #[])∧SW0 w0 w' gs go cs V (insSort 0 (ltC cf) a (b - (a + 1)) (a + 1) p):=by
 obtain ⟨h1,h2,h3,h4,rfl,rfl⟩:=h
 exact insertion_any w0 gs go cs V hV1 cf hC n cap a b p w hS h1 h2 h3 h4
def insBlocks (lt : Nat→Nat→Bool) (n : Nat) : Nat→Nat→List Nat→List Nat
 | 0,_,p=>p
 | f + 1,a,p=>if a + 20≤n then insBlocks lt n f (a + 20) (insSort 0 lt a (a + 20 - (a + 1)) (a + 1) p) else insSort 0 lt a (n - (a + 1)) (a + 1) p
def symPass (lt : Nat→Nat→Bool) (n bs : Nat) : Nat→Nat→List Nat→List Nat
 | 0,_,p=>p
 | f + 1,a,p=>if a + 2 * bs≤n then symPass lt n bs f (a + 2 * bs) (symM 0 lt n a (a + bs) (a + 2 * bs) p) else if a + bs < n then symM 0 lt n a (a + bs) n p else p
def passes (lt : Nat→Nat→Bool) (n : Nat) : Nat→Nat→List Nat→List Nat
 | 0,_,p=>p
 | f + 1,bs,p=>if bs < n then passes lt n f (bs * 2) (symPass lt n bs (n + 1) 0 p) else p
def stableL (lt : Nat→Nat→Bool) (n : Nat) (p : List Nat) : List Nat:=passes lt n (n + 1) 20 (insBlocks lt n (n + 1) 0 p)
theorem insBlocks_length (lt : Nat→Nat→Bool) (n : Nat) : ∀ (f a : Nat) (p : List Nat),(insBlocks lt n f a p).length=p.length
 | 0,_,_=>rfl
 | f + 1,a,p=>by unfold insBlocks;split;rw [insBlocks_length,insSort_length];exact insSort_length _ _ _ _ _
theorem symPass_length (lt : Nat→Nat→Bool) (n bs : Nat) : ∀ (f a : Nat) (p : List Nat),(symPass lt n bs f a p).length=p.length
 | 0,_,_=>rfl
 | f + 1,a,p=>by unfold symPass;split;rw [symPass_length,symM_length];split;exact symM_length _ _ _ _ _ _;rfl
set_option maxHeartbeats 8000000 in
set_option maxRecDepth 100000 in
theorem stable_any (w0 : World) (gs go : Nat) (cs : Array Value) (V : Nat→Value) (hV1 : ∀ i,∃ A n c,V i=.slice A n c) (cf : Nat→Nat→Int) (hC : CmpOk w0 gs go cs V cf) (n cap : Nat) (p : List Nat) (w : World) (hS : SW0 w0 w gs go cs V p) (hp : p.length=n) (hn : n≤1000000000) :
  Calls Try.prog 33 #[.slice (some ⟨go,0,none⟩) n cap,.int .i64 n,FV gs] w fun e w'=>e=.returned (.tuple #[])∧SW0 w0 w' gs go cs V (stableL (ltC cf) n p):=by
 unfold FV
 have mixed : Try.prog.follows Departure.mixedOrders=true:=rfl
 have HS:=Aside0.mk hS
 have HV1:=Aside0.mk hV1
 have HC:=Aside0.mk hC
 clear hS hV1 hC
 unfold stableL
 obtain ⟨fin0,hf0⟩ : ∃ q,q=insBlocks (ltC cf) n (n + 1) 0 p:=⟨_,rfl⟩
 rw [← hf0]
 have HL0:=Aside0.mk (show fin0.length=n by rw [hf0,insBlocks_length];exact hp)
 obtain ⟨fin,hfin⟩ : ∃ q,q=passes (ltC cf) n (n + 1) 20 fin0:=⟨_,rfl⟩
 rw [← hfin]
 have HF0:=Aside0.mk hf0
 have HF:=Aside0.mk hfin
 clear hf0 hfin
 go_enter Try.func33,Try.ntmps33
 go_wp2
 go_loopg [7,8] (n + 1) (fun gk v7 v8 wr=>∃ (a b : Nat) (q : List Nat),v7=.int .i64 a∧v8=.int .i64 b∧Aside0 (b=a + 20∧a≤n∧n + 1≤a + gk∧q.length=n)∧Aside0 (SW0 w0 wr gs go cs V q)∧Aside0 (fin0=insBlocks (ltC cf) n gk a q))
 case atStart=>exact ⟨0,20,p,rfl,rfl,⟨by omega⟩,HS,HF0⟩
 case round =>
  clear HS HF0
  obtain ⟨a,b,q,rfl,rfl,HK,HS,HE⟩:=hrel
  obtain ⟨m1,hm1⟩ : ∃ m,gk=m + 1:=⟨gk - 1,by have:=HK.out;omega⟩
  have HM:=Aside0.mk hm1
  have hE:=HE.out
  rw [hm1,insBlocks] at hE
  by_cases hlt : b≤n
  ·have hltz : (b : Int)≤(n : Int):=by omega
   have hbb : (b : Int)≤1000000000:=by omega
   rw [if_pos (by have:=HK.out;omega)] at hE
   have HE2:=Aside0.mk hE
   have SD:=Aside0.mk (show q.length=n∧a≤a + 20∧a + 20≤n∧n≤1000000000∧(a : Int)=(a : Nat)∧(b : Int)=(a + 20 : Nat) by have:=HK.out;omega)
   clear hE HE hm1 hlt
   go_wp2_with (go_at_call 37;refine (insertion_z w0 gs go cs V HV1.out cf HC.out n cap a (a + 20) q _ HS.out _ _ SD.out).mono ?_;rintro e9 w9 ⟨rfl,h⟩;have HS9:=Aside0.mk h;clear h)
   go_roundg m1
   case measure=>have:=HM.out;omega
   case rel=>exact ⟨b,b + 20,_,rfl,by first|rfl|go_num|(congr 1;done)|(congr 1;omega),⟨by have:=HK.out;have:=SD.out;have:=HM.out;rw [insSort_length];omega⟩,HS9,⟨by rw [HE2.out];have:=HK.out.1;rw [this]⟩⟩
  ·have hltz : ¬ (b : Int)≤(n : Int):=by omega
   rw [if_neg (by have:=HK.out;omega)] at hE
   have HE2:=Aside0.mk hE
   have SD:=Aside0.mk (show q.length=n∧a≤n∧n≤n∧n≤1000000000∧(a : Int)=(a : Nat)∧(n : Int)=(n : Nat) by have:=HK.out;omega)
   clear hE HE hm1 hlt
   go_wp2_with (go_at_call 37;refine (insertion_z w0 gs go cs V HV1.out cf HC.out n cap a n q _ HS.out _ _ SD.out).mono ?_;rintro e9 w9 ⟨rfl,h⟩;have HS9:=Aside0.mk h;clear h)
   rw [← HE2.out] at HS9
   clear HE2 HS SD HM HK hltz
   go_loopg [6] (n + 1) (fun gk v6 wr=>∃ (bs : Nat) (q : List Nat),v6=.int .i64 bs∧Aside0 (20≤bs∧n + 1≤bs + gk∧q.length=n∧0 < gk)∧Aside0 (SW0 w0 wr gs go cs V q)∧Aside0 (fin=passes (ltC cf) n gk bs q))
   case atStart=>exact ⟨20,fin0,rfl,⟨by have:=HL0.out;omega⟩,HS9,HF⟩
   case round =>
    clear HS9 HF
    obtain ⟨bs,q,rfl,HK,HS,HE⟩:=hrel
    obtain ⟨m1,hm1⟩ : ∃ m,gk=m + 1:=⟨gk - 1,by have:=HK.out;omega⟩
    have HM:=Aside0.mk hm1
    have hE:=HE.out
    rw [hm1,passes] at hE
    by_cases hlt : bs < n
    ·have hltz : (bs : Int) < (n : Int):=by omega
     have hbb : (bs : Int)≤1000000000:=by omega
     rw [if_pos hlt] at hE
     obtain ⟨q2,hq2⟩ : ∃ q2,q2=symPass (ltC cf) n bs (n + 1) 0 q:=⟨_,rfl⟩
     rw [← hq2] at hE
     have HE2:=Aside0.mk hE
     have HL2:=Aside0.mk (show q2.length=n by rw [hq2,symPass_length];exact HK.out.2.2.1)
     have HQ2:=Aside0.mk hq2
     have HLT:=Aside0.mk hlt
     clear hE HE hm1 hlt hq2
     go_wp2
     go_loopg [7,8] (n + 1) (fun gj v7 v8 wr=>∃ (a b : Nat) (r : List Nat),v7=.int .i64 a∧v8=.int .i64 b∧Aside0 (b=a + 2 * bs∧a≤n∧n + 1≤a + gj∧r.length=n)∧Aside0 (SW0 w0 wr gs go cs V r)∧Aside0 (q2=symPass (ltC cf) n bs gj a r))
     case atStart=>exact ⟨0,2 * bs,q,rfl,by first|rfl|go_num|(congr 1;done)|(congr 1;omega),⟨by have:=HK.out;omega⟩,HS,HQ2⟩
     case round =>
      clear HS HQ2
      obtain ⟨a,b,r,rfl,rfl,HJ,HS,HI⟩:=hrel
      obtain ⟨m2,hm2⟩ : ∃ m,gk=m + 1:=⟨gk - 1,by have:=HJ.out;omega⟩
      have HM2:=Aside0.mk hm2
      have hI:=HI.out
      rw [hm2,symPass] at hI
      have hab : (a : Int)≤1000000000:=by have:=HJ.out;omega
      have hbb2 : (b : Int)≤4000000000:=by have:=HJ.out;omega
      by_cases hbn : b≤n
      ·have hbz : (b : Int)≤(n : Int):=by omega
       rw [if_pos (by have:=HJ.out;omega)] at hI
       have HI2:=Aside0.mk hI
       have SD:=Aside0.mk (show r.length=n∧a < a + bs∧a + bs < a + 2 * bs∧a + 2 * bs≤n∧n≤1000000000∧(a : Int)=(a : Nat)∧(a : Int) + (bs : Int)=(a + bs : Nat)∧(b : Int)=(a + 2 * bs : Nat) by have:=HJ.out;have:=HK.out;omega)
       clear hI HI hm2 hbn
       go_wp2_with (go_at_call 38;refine (symMerge_z w0 gs go cs V HV1.out cf HC.out n cap a (a + bs) (a + 2 * bs) r _ HS.out _ _ _ SD.out).mono ?_;rintro e9 w9 ⟨rfl,h⟩;have HS9:=Aside0.mk h;clear h)
       go_roundg m2
       case measure=>have:=HM2.out;omega
       case rel=>exact ⟨b,b + 2 * bs,_,rfl,by first|rfl|go_num|(congr 1;done)|(congr 1;omega),⟨by have:=HJ.out;have:=SD.out;have:=HM2.out;have:=HK.out;rw [symM_length];omega⟩,HS9,⟨by rw [HI2.out];have:=HJ.out.1;rw [this]⟩⟩
      ·have hbz : ¬ (b : Int)≤(n : Int):=by omega
       rw [if_neg (by have:=HJ.out;omega)] at hI
       by_cases hmn : a + bs < n
       ·have hmz : (a : Int) + (bs : Int) < (n : Int):=by omega
        rw [if_pos hmn] at hI
        have HI2:=Aside0.mk hI
        have SD:=Aside0.mk (show r.length=n∧a < a + bs∧a + bs < n∧n≤n∧n≤1000000000∧(a : Int)=(a : Nat)∧(a : Int) + (bs : Int)=(a + bs : Nat)∧(n : Int)=(n : Nat) by have:=HJ.out;have:=HK.out;omega)
        clear hI HI hm2 hbn hmn
        go_wp2_with (go_at_call 38;refine (symMerge_z w0 gs go cs V HV1.out cf HC.out n cap a (a + bs) n r _ HS.out _ _ _ SD.out).mono ?_;rintro e9 w9 ⟨rfl,h⟩;have HS9:=Aside0.mk h;clear h)
        go_roundg m1
        case measure=>have:=HM.out;omega
        case rel=>exact ⟨bs * 2,q2,by first|rfl|go_num|(congr 1;done)|(congr 1;omega),⟨by have:=HL2.out;have:=HM.out;have:=HK.out;have:=HLT.out;omega⟩,⟨by rw [HI2.out];exact HS9.out⟩,HE2⟩
       ·have hmz : ¬ (a : Int) + (bs : Int) < (n : Int):=by omega
        rw [if_neg hmn] at hI
        have HI2:=Aside0.mk hI
        clear hI HI hm2 hbn hmn
        go_wp2
        go_roundg m1
        case measure=>have:=HM.out;omega
        case rel=>exact ⟨bs * 2,q2,by first|rfl|go_num|(congr 1;done)|(congr 1;omega),⟨by have:=HL2.out;have:=HM.out;have:=HK.out;have:=HLT.out;omega⟩,⟨by rw [HI2.out];exact HS.out⟩,HE2⟩
    ·have hltz : ¬ (bs : Int) < (n : Int):=by omega
     rw [if_neg hlt] at hE
     have HE2:=Aside0.mk hE
     clear hE HE hm1
     go_wp2
     go_end0
     exact ⟨rfl,by rw [HE2.out];exact HS.out⟩
set_option maxHeartbeats 8000000 in
set_option maxRecDepth 100000 in
theorem sortStable_any (w0 : World) (gs go : Nat) (cs : Array Value) (V : Nat→Value) (hV1 : ∀ i,∃ A n c,V i=.slice A n c) (cf : Nat→Nat→Int) (hC : CmpOk w0 gs go cs V cf) (n cap : Nat) (p : List Nat) (w : World) (hS : SW0 w0 w gs go cs V p) (hp : p.length=n) (hn : n≤1000000000) :
  Calls Try.prog 24 #[.slice (some ⟨go,0,none⟩) n cap,.func (.func 25) #[] #[.pointer (some ⟨gs,0,none⟩)]] w fun e w'=>e=.returned (.tuple #[])∧SW0 w0 w' gs go cs V (stableL (ltC cf) n p):=by
 have HST:=Aside0.mk (stable_any w0 gs go cs V hV1 cf hC n cap p w hS hp hn)
 clear hV1 hC hS
 go_enter Try.func24,Try.ntmps24
 go_wp2_with (go_at_call 33;refine HST.out.mono ?_;rintro e9 w9 ⟨rfl,h⟩;have HS9:=Aside0.mk h;clear h)
 go_end0
 exact ⟨rfl,HS9.out⟩
end Go.Proofs.Ytojbeofipedolaa.P

