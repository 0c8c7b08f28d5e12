/- Texts of IndexGrows. Merged: HMeetsB. -/
import Derived.Test.YtfccebnoflhkcaaQIndexGrowsHMeetsA
/- sort.Search over the closures of index.Meets, by hand. -/
namespace Go.Proofs.Ytfccebnoflhkcaa.P
open Go.RowKit Go.Proofs.YtfccebnoflhkcaaW.PrintWords Go.Proofs.YtfccebnoflhkcaaW.PrintLast Go.Proofs.YtfccebnoflhkcaaW.PrintMore
set_option linter.unusedVariables false
set_option linter.unusedSimpArgs false
def bsearch (p : Nat→Bool) : Nat→Nat→Nat→Nat
 | 0,i,_=>i
 | m + 1,i,j=>if i < j then (if p ((i + j) / 2)=true then bsearch p m i ((i + j) / 2) else bsearch p m ((i + j) / 2 + 1) j) else i
theorem bsearch_fuel (p : Nat→Bool) : ∀ m m' i j,j - i≤m→j - i≤m'→bsearch p m i j=bsearch p m' i j
 | 0,0,i,j,_,_=>rfl
 | 0,m' + 1,i,j,h,_=>by rw [bsearch,bsearch,if_neg (by omega)]
 | m + 1,0,i,j,_,h=>by rw [bsearch,bsearch,if_neg (by omega)]
 | m + 1,m' + 1,i,j,h,h'=>by
  rw [bsearch,bsearch]
  split
  ·split
   ·exact bsearch_fuel p m m' _ _ (by omega) (by omega)
   ·exact bsearch_fuel p m m' _ _ (by omega) (by omega)
  ·rfl
set_option maxHeartbeats 4000000 in
set_option maxRecDepth 100000 in
theorem searchAbove_any (gs gm gr : Nat) (A : Option Addr) (c : Nat) (T : List Int) (a b d : Int) (B : Option Addr) (e : Nat) (l : List (List XV)) (hl hh : Bool) (AL : Option Addr) (cL : Nat) (lo : List XV) (AH : Option Addr) (cH : Nat) (hi : List XV) (w : World) (hE : MEnv w gs gm gr A c T a b d B e l hl hh AL cL lo AH cH hi) (hT8 : T.length≤1000000000) (hlen : l.length≤1000000000) :
  Calls Try.prog 26 #[.int .i64 l.length,.func (.func 24) #[] #[.pointer (some ⟨gr,0,none⟩),.pointer (some ⟨gs,0,none⟩),.pointer (some ⟨gm,0,none⟩)]] w fun e w'=>e=.returned (.int .i64 (bsearch (fun i : Nat=>hh && decide (cmpRow T a (rdR l i) hi > 0)) l.length 0 l.length : Nat))∧Below w.heap.size w w':=by
 obtain ⟨p,hp⟩ : ∃ p : Nat→Bool,p=fun i : Nat=>hh && decide (cmpRow T a (rdR l i) hi > 0):=⟨_,rfl⟩
 rw [← hp]
 obtain ⟨r,hr⟩ : ∃ r,r=bsearch p l.length 0 l.length:=⟨_,rfl⟩
 rw [← hr]
 have HR:=Aside0.mk hr
 have HP:=Aside0.mk hp
 have HE:=Aside0.mk hE
 clear hr hp hE
 go_enter Try.func26,Try.ntmps26
 go_wp2
 go_loopw [5,6] (fun i j wr=>∃ i' j' : Nat,i'≤j'∧j'≤l.length∧i=.int .i64 i'∧j=.int .i64 j'∧Aside0 (r=bsearch p (j' - i') i' j')∧Aside0 (Below w.heap.size w wr)) (fun i j _=>(intOf j).toNat - (intOf i).toNat)
 case atStart=>exact ⟨0,l.length,Nat.zero_le _,Nat.le_refl _,rfl,rfl,HR,Aside0.mk (Below.refl _ _)⟩
 case round =>
  obtain ⟨i,j,hij,hjn,rfl,rfl,HQ,HB⟩:=hrel
  by_cases hlt : i < j
  ·have hq:=HQ.out
   rw [show j - i=(j - i - 1) + 1 by omega,bsearch,if_pos hlt] at hq
   obtain ⟨h,hh_⟩ : ∃ h,(i + j) / 2=h:=⟨_,rfl⟩
   rw [hh_] at hq
   have hih : i≤h:=by omega
   have hhj : h < j:=by omega
   have hhl : h < l.length:=by omega
   have hhl1 : h≤l.length:=by omega
   have hj1 : h + 1≤j:=by omega
   have m1 : h - i≤j - i - 1:=by omega
   have m2 : h - i≤h - i:=by omega
   have m3 : j - (h + 1)≤j - i - 1:=by omega
   have m4 : j - (h + 1)≤j - (h + 1):=by omega
   have m5 : h - i < j - i:=by omega
   have m6 : j - (h + 1) < j - i:=by omega
   have eh : ((h : Nat) : Int)=((i : Int) + (j : Int)) / 2:=by omega
   have eh1 : ((i : Int) + (j : Int)) / 2 + 1=((h + 1 : Nat) : Int):=by omega
   have hc : ∀ W,Below w.heap.size w W→Calls Try.prog 24 #[.int .i64 (((i : Int) + (j : Int)) / 2),.pointer (some ⟨gr,0,none⟩),.pointer (some ⟨gs,0,none⟩),.pointer (some ⟨gm,0,none⟩)] W fun e w'=>e=.returned (.bool (p h))∧Below W.heap.size W w':=fun W hB=>by
    have HB:=Aside0.mk hB
    rw [← eh,congrFun HP.out h]
    exact above_any gs gm gr A c T a b d B e l hl hh AL cL lo AH cH hi _ (HE.out.below HB.out) hT8 h hhl
   have HQ2:=Aside0.mk hq
   have EH:=Aside0.mk eh
   have EH1:=Aside0.mk eh1
   have HIH:=Aside0.mk (And.intro hih (And.intro hhj (And.intro hhl (And.intro hhl1 hj1))))
   clear HQ hq hh_ eh eh1 hih hhj hhl hhl1 hj1
   by_cases ho : p h=true
   ·have hq:=HQ2.out
    rw [if_pos ho,bsearch_fuel p _ (h - i) i h m1 m2] at hq
    have HQ:=Aside0.mk hq
    rw [ho] at hc
    clear hq ho HQ2 m1 m2 m3 m4
    have M5:=Aside0.mk m5
    have M6:=Aside0.mk m6
    clear m5 m6
    go_wp2_with (go_at_call 24;refine (hc _ HB.out).mono ?_;rintro e w' ⟨rfl,hb⟩;have HB2:=Aside0.mk (below_step HB.out hb);clear hb)
    go_roundw
    case rel=>exact ⟨i,h,HIH.out.1,HIH.out.2.2.2.1,rfl,by rw [EH.out],HQ,HB2⟩
    case measure=>rw [← EH.out];simp only [intOf,Int.toNat_natCast];exact M5.out
   ·have hq:=HQ2.out
    rw [if_neg ho,bsearch_fuel p _ (j - (h + 1)) (h + 1) j m3 m4] at hq
    have ho2 : p h=false:=Bool.eq_false_iff.mpr ho
    have HQ:=Aside0.mk hq
    rw [ho2] at hc
    clear hq ho ho2 HQ2 m1 m2 m3 m4
    have M5:=Aside0.mk m5
    have M6:=Aside0.mk m6
    clear m5 m6
    go_wp2_with (go_at_call 24;refine (hc _ HB.out).mono ?_;rintro e w' ⟨rfl,hb⟩;have HB2:=Aside0.mk (below_step HB.out hb);clear hb)
    go_roundw
    case rel=>exact ⟨h + 1,j,HIH.out.2.2.2.2,hjn,by rw [EH1.out],rfl,HQ,HB2⟩
    case measure=>rw [EH1.out];simp only [intOf,Int.toNat_natCast];exact M6.out
  ·have hq:=HQ.out
   rw [show j - i=0 by omega,bsearch] at hq
   have HQ2:=Aside0.mk hq
   clear hq HQ
   have c0 : decide ((i : Int) < (j : Int))=false:=decide_eq_false (by omega)
   go_wp2
   go_ret
   exact ⟨by rw [HQ2.out];rfl,HB.out⟩
set_option maxHeartbeats 4000000 in
set_option maxRecDepth 100000 in
theorem searchBegins_any (gn : Nat) (gs gm gr : Nat) (A : Option Addr) (c : Nat) (T : List Int) (a b d : Int) (B : Option Addr) (e : Nat) (l : List (List XV)) (hl hh : Bool) (AL : Option Addr) (cL : Nat) (lo : List XV) (AH : Option Addr) (cH : Nat) (hi : List XV) (w : World) (hE : MEnv w gs gm gr A c T a b d B e l hl hh AL cL lo AH cH hi) (h10 : w.cell? ⟨gn,0,none⟩=some (.int .i64 l.length)) (hT8 : T.length≤1000000000) (hlen : l.length≤1000000000) :
  Calls Try.prog 26 #[.int .i64 l.length,.func (.func 25) #[] #[.pointer (some ⟨gn,0,none⟩),.pointer (some ⟨gr,0,none⟩),.pointer (some ⟨gs,0,none⟩),.pointer (some ⟨gm,0,none⟩)]] w fun e w'=>e=.returned (.int .i64 (bsearch (fun i : Nat=>decide (i + 1=l.length) || (!hl || decide (cmpRow T a (rdR l (i + 1 : Nat)) lo ≥ 0))) l.length 0 l.length : Nat))∧Below w.heap.size w w':=by
 obtain ⟨p,hp⟩ : ∃ p : Nat→Bool,p=fun i : Nat=>decide (i + 1=l.length) || (!hl || decide (cmpRow T a (rdR l (i + 1 : Nat)) lo ≥ 0)):=⟨_,rfl⟩
 rw [← hp]
 obtain ⟨r,hr⟩ : ∃ r,r=bsearch p l.length 0 l.length:=⟨_,rfl⟩
 rw [← hr]
 have HR:=Aside0.mk hr
 have HP:=Aside0.mk hp
 have HE:=Aside0.mk hE
 clear hr hp hE
 go_enter Try.func26,Try.ntmps26
 go_wp2
 go_loopw [5,6] (fun i j wr=>∃ i' j' : Nat,i'≤j'∧j'≤l.length∧i=.int .i64 i'∧j=.int .i64 j'∧Aside0 (r=bsearch p (j' - i') i' j')∧Aside0 (Below w.heap.size w wr)) (fun i j _=>(intOf j).toNat - (intOf i).toNat)
 case atStart=>exact ⟨0,l.length,Nat.zero_le _,Nat.le_refl _,rfl,rfl,HR,Aside0.mk (Below.refl _ _)⟩
 case round =>
  obtain ⟨i,j,hij,hjn,rfl,rfl,HQ,HB⟩:=hrel
  by_cases hlt : i < j
  ·have hq:=HQ.out
   rw [show j - i=(j - i - 1) + 1 by omega,bsearch,if_pos hlt] at hq
   obtain ⟨h,hh_⟩ : ∃ h,(i + j) / 2=h:=⟨_,rfl⟩
   rw [hh_] at hq
   have hih : i≤h:=by omega
   have hhj : h < j:=by omega
   have hhl : h < l.length:=by omega
   have hhl1 : h≤l.length:=by omega
   have hj1 : h + 1≤j:=by omega
   have m1 : h - i≤j - i - 1:=by omega
   have m2 : h - i≤h - i:=by omega
   have m3 : j - (h + 1)≤j - i - 1:=by omega
   have m4 : j - (h + 1)≤j - (h + 1):=by omega
   have m5 : h - i < j - i:=by omega
   have m6 : j - (h + 1) < j - i:=by omega
   have eh : ((h : Nat) : Int)=((i : Int) + (j : Int)) / 2:=by omega
   have eh1 : ((i : Int) + (j : Int)) / 2 + 1=((h + 1 : Nat) : Int):=by omega
   have hc : ∀ W,Below w.heap.size w W→Calls Try.prog 25 #[.int .i64 (((i : Int) + (j : Int)) / 2),.pointer (some ⟨gn,0,none⟩),.pointer (some ⟨gr,0,none⟩),.pointer (some ⟨gs,0,none⟩),.pointer (some ⟨gm,0,none⟩)] W fun e w'=>e=.returned (.bool (p h))∧Below W.heap.size W w':=fun W hB=>by
    have HB:=Aside0.mk hB
    rw [← eh,congrFun HP.out h]
    exact begins_any gn gs gm gr A c T a b d B e l hl hh AL cL lo AH cH hi _ (HE.out.below HB.out) ((HB.out.cell (World.block_lt_of_cell? w _ h10)).trans h10) hT8 hlen h hhl
   have HQ2:=Aside0.mk hq
   have EH:=Aside0.mk eh
   have EH1:=Aside0.mk eh1
   have HIH:=Aside0.mk (And.intro hih (And.intro hhj (And.intro hhl (And.intro hhl1 hj1))))
   clear HQ hq hh_ eh eh1 hih hhj hhl hhl1 hj1
   by_cases ho : p h=true
   ·have hq:=HQ2.out
    rw [if_pos ho,bsearch_fuel p _ (h - i) i h m1 m2] at hq
    have HQ:=Aside0.mk hq
    rw [ho] at hc
    clear hq ho HQ2 m1 m2 m3 m4
    have M5:=Aside0.mk m5
    have M6:=Aside0.mk m6
    clear m5 m6
    go_wp2_with (go_at_call 25;refine (hc _ HB.out).mono ?_;rintro e w' ⟨rfl,hb⟩;have HB2:=Aside0.mk (below_step HB.out hb);clear hb)
    go_roundw
    case rel=>exact ⟨i,h,HIH.out.1,HIH.out.2.2.2.1,rfl,by rw [EH.out],HQ,HB2⟩
    case measure=>rw [← EH.out];simp only [intOf,Int.toNat_natCast];exact M5.out
   ·have hq:=HQ2.out
    rw [if_neg ho,bsearch_fuel p _ (j - (h + 1)) (h + 1) j m3 m4] at hq
    have ho2 : p h=false:=Bool.eq_false_iff.mpr ho
    have HQ:=Aside0.mk hq
    rw [ho2] at hc
    clear hq ho ho2 HQ2 m1 m2 m3 m4
    have M5:=Aside0.mk m5
    have M6:=Aside0.mk m6
    clear m5 m6
    go_wp2_with (go_at_call 25;refine (hc _ HB.out).mono ?_;rintro e w' ⟨rfl,hb⟩;have HB2:=Aside0.mk (below_step HB.out hb);clear hb)
    go_roundw
    case rel=>exact ⟨h + 1,j,HIH.out.2.2.2.2,hjn,by rw [EH1.out],rfl,HQ,HB2⟩
    case measure=>rw [EH1.out];simp only [intOf,Int.toNat_natCast];exact M6.out
  ·have hq:=HQ.out
   rw [show j - i=0 by omega,bsearch] at hq
   have HQ2:=Aside0.mk hq
   clear hq HQ
   have c0 : decide ((i : Int) < (j : Int))=false:=decide_eq_false (by omega)
   go_wp2
   go_ret
   exact ⟨by rw [HQ2.out];rfl,HB.out⟩
end Go.Proofs.Ytfccebnoflhkcaa.P

