/- Texts of MergeStable. Merged: HCmp, XBase, XStable, XHeap, XOrd, XStabB, XFitOk, XRVal, XRCmp, XRowOk, XSort, XOrdN. -/
import Derived.Test.YtfiandejapgkoaaQMergeStablePx0
import Derived.Lib.Strings
import Derived.Lib.Walk
import Derived.Lib.Bytealg
import Derived.Test.YtfiandejapgkoaaQMergeStableHBase
import Derived.Test.YtfiandejapgkoaaQMergeStablePx6
import Derived.Test.YtfiandejapgkoaaQMergeStablePx5
import Derived.Test.YtfiandejapgkoaaQMergeStablePx7
import Derived.Test.YtfiandejapgkoaaQMergeStablePx8
/- strings.Compare, by hand: the order of two texts by their bytes. -/
namespace Go.Proofs.Ytfiandejapgkoaa.P
open Go.RowKit Go.Proofs.YtfiandejapgkoaaW.PrintWords Go.Proofs.YtfiandejapgkoaaW.PrintLast Go.Proofs.YtfiandejapgkoaaW.PrintMore
set_option linter.unusedVariables false
set_option linter.unusedSimpArgs false
def strings_Compare.f (a0 a1 : ByteArray) : Option Int:=some (Lib.compareBytes a0.data.toList a1.data.toList)
set_option maxHeartbeats 1000000 in
set_option maxRecDepth 100000 in
theorem compareString_any (a b : ByteArray) (w : World) :
  Calls Try.prog 48 #[.string a,.string b] w fun e w'=>e=.returned (.int .i64 (Lib.compareBytes a.data.toList b.data.toList))∧w=w':=by
 go_enter Try.func48,Try.ntmps48
 go_wp2
 rw [run_callFunc_extern Try.func51 (by kernel_rfl) (by kernel_rfl) (by kernel_rfl) (e:=Extern.BytealgCompare.compare) (by kernel_rfl),Lib.run_compareString]
 simp only [Result.andThen]
 rw [Oper.upon_value]
 go_wp2
 go_ret
 exact ⟨rfl,rfl⟩
set_option maxHeartbeats 1000000 in
set_option maxRecDepth 100000 in
theorem strings_Compare.calls (a0 : ByteArray) (a1 : ByteArray) (r : Int) (w : World) (h : strings_Compare.f a0 a1=some r) :
  Calls Try.prog 42 #[.string a0,.string a1] w fun e w'=>e=.returned (.int .i64 r)∧Drawn0 w w':=by
 obtain rfl:=Option.some.inj h
 go_enter Try.func42,Try.ntmps42
 go_wp2_with (go_at_call 48;refine (compareString_any _ _ _).mono ?_;rintro e w' ⟨rfl,rfl⟩)
 go_ret
 exact ⟨rfl,Drawn0.refl _⟩
end Go.Proofs.Ytfiandejapgkoaa.P

/- Words of the laws about rows. -/
namespace Go.Proofs.Ytfiandejapgkoaa.P
open Go.RowKit Go.Proofs.YtfiandejapgkoaaW.PrintWords Go.Proofs.YtfiandejapgkoaaW.PrintLast Go.Proofs.YtfiandejapgkoaaW.PrintMore
set_option linter.unusedVariables false
set_option linter.unusedSimpArgs false
abbrev XV:=S31
abbrev rdV (l : List XV) (i : Int) : XV:=rd_T31 l i
abbrev rdR (l : List (List XV)) (i : Int) : List XV:=rd_L3 l i
theorem rd_lt (l : List Int) (i : Nat) (h : i < l.length) : rd l i=l[i]:=by unfold rd;simp [List.getD,h]
theorem rdV_lt (l : List XV) (i : Nat) (h : i < l.length) : rd_T31 l i=l[i]:=by unfold rd_T31;simp [List.getD,h]
theorem rdV_ge (l : List XV) (i : Nat) (h : l.length≤i) : rd_T31 l i=⟨0,⟨#[]⟩⟩:=by unfold rd_T31;simp [List.getD,h];rfl
theorem rdR_lt (l : List (List XV)) (i : Nat) (h : i < l.length) : rd_L3 l i=l[i]:=by unfold rd_L3;simp [List.getD,h]
structure Sch (T : List Int) (K M G : Int) : Prop where
 n1 : 1≤T.length
 n8 : T.length≤8
 ty : ∀ t ∈ T,1≤t∧t≤3
 k1 : 1≤K
 kn : K≤T.length
 m1 : 1≤M
 m3 : M≤3
 g1 : 1≤G
 g8 : G≤8
def fitT (t : Int) (v : XV) : Bool:=if t=1 ∨ t=2 then v.f1.toList == ([] : List UInt8) else if t=3 then (if v.f0=0 then decide ((v.f1.size : Int)≤60) else false) else false
def rowOkB (T : List Int) (r : List XV) : Bool:=decide (T.length=r.length) && (List.range T.length).all fun (i : Nat)=>fitT (rd T i) (rdV r i)
def fit1 (t : Int) (v : XV) : XV:=if t=3 then ⟨0,if (v.f1.size : Int) > 60 then v.f1.extract 0 60 else v.f1⟩ else ⟨v.f0,⟨#[]⟩⟩
def fitRow (T : List Int) (r : List XV) : List XV:=(List.range' 0 T.length).map fun (i : Nat)=>fit1 (rd T i) (rdV r i)
theorem bytes_eq {a b : ByteArray} (h : a.toList=b.toList) : a=b:=by
 rw [ByteArray.toList_eq,ByteArray.toList_eq] at h
 exact ByteArray.ext (Array.toList_inj.mp h)
theorem XV.same {a b : XV} : (!(a.f0 == b.f0) || (!(a.f1.toList == b.f1.toList)))=true ↔ a≠b:=by
 constructor
 ·rintro h rfl
  simp at h
 ·intro h
  by_cases h0 : a.f0=b.f0
  ·by_cases h1 : a.f1.toList=b.f1.toList
   ·exact absurd (by cases a;cases b;simp only at h0 h1;rw [h0,bytes_eq h1]) h
   ·simp [h1]
  ·simp [h0]
instance : DecidableEq XV:=fun a b=>if h : (!(a.f0 == b.f0) || (!(a.f1.toList == b.f1.toList)))=true then isFalse (XV.same.mp h) else isTrue (Classical.byContradiction fun e=>h (XV.same.mpr e))
end Go.Proofs.Ytfiandejapgkoaa.P

/- A stable sort by blocks and by symmetric merges, in plain lists: what it does, step by step. -/
namespace Go.Proofs.Ytfiandejapgkoaa.P
set_option linter.unusedVariables false
set_option linter.unusedSectionVars false
section
variable {E : Type} (e0 : E) (lt : E→E→Bool)
def gt_ (xs : List E) (i : Nat) : E:=xs.getD i e0
theorem gt_lt {xs : List E} {i : Nat} (h : i < xs.length) : gt_ e0 xs i=xs[i]:=by simp [gt_,List.getD,h]
def swp (xs : List E) (i j : Nat) : List E:=(xs.set i (gt_ e0 xs j)).set j (gt_ e0 xs i)
theorem swp_length (xs : List E) (i j : Nat) : (swp e0 xs i j).length=xs.length:=by simp [swp]
def bsr (p : Nat→Bool) : Nat→Nat→Nat→Nat
 | 0,i,_=>i
 | m + 1,i,j=>if i < j then (if p ((i + j) / 2)=true then bsr p m i ((i + j) / 2) else bsr p m ((i + j) / 2 + 1) j) else i
def insIn (a : Nat) : Nat→List E→List E
 | 0,xs=>xs
 | j + 1,xs=>if a < j + 1∧lt (gt_ e0 xs (j + 1)) (gt_ e0 xs j)=true then insIn a j (swp e0 xs (j + 1) j) else xs
def insSort (a : Nat) : Nat→Nat→List E→List E
 | 0,_,xs=>xs
 | d + 1,i,xs=>insSort a d (i + 1) (insIn e0 lt a i xs)
def swapR (a b : Nat) : Nat→Nat→List E→List E
 | 0,_,xs=>xs
 | d + 1,i,xs=>swapR a b d (i + 1) (swp e0 xs (a + i) (b + i))
def rot (m : Nat) : Nat→Nat→Nat→List E→List E
 | 0,i,_,xs=>xs
 | f + 1,i,j,xs=>if i=j then swapR e0 (m - i) m i 0 xs else if j < i then rot m f (i - j) j (swapR e0 (m - i) m j 0 xs) else rot m f i (j - i) (swapR e0 (m - i) (m + j - i) i 0 xs)
def goUp : Nat→Nat→List E→List E
 | 0,_,xs=>xs
 | d + 1,k,xs=>goUp d (k + 1) (swp e0 xs k (k + 1))
def goDn : Nat→Nat→List E→List E
 | 0,_,xs=>xs
 | d + 1,k,xs=>goDn d (k - 1) (swp e0 xs k (k - 1))
def symM : Nat→Nat→Nat→Nat→List E→List E
 | 0,_,_,_,xs=>xs
 | f + 1,a,m,b,xs =>
  if m - a=1 then
   let i:=bsr (fun h=>!lt (gt_ e0 xs h) (gt_ e0 xs a)) (b - m) m b
   goUp e0 (i - 1 - a) a xs
  else if b - m=1 then
   let i:=bsr (fun h=>lt (gt_ e0 xs m) (gt_ e0 xs h)) (m - a) a m
   goDn e0 (m - i) m xs
  else
   let mid:=(a + b) / 2
   let n:=mid + m
   let s0:=if m > mid then n - b else a
   let r0:=if m > mid then mid else m
   let s:=bsr (fun c=>lt (gt_ e0 xs (n - 1 - c)) (gt_ e0 xs c)) (r0 - s0) s0 r0
   let e:=n - s
   let x1:=if s < m∧m < e then rot e0 m (e - s) (m - s) (e - m) xs else xs
   let x2:=if a < s∧s < mid then symM f a s mid x1 else x1
   if mid < e∧e < b then symM f mid e b x2 else x2
theorem get_at (P : List E) (x : E) (Q : List E) : gt_ e0 (P ++ x :: Q) P.length=x:=by
 rw [gt_lt e0 (by simp)]
 simp
theorem set_at (P : List E) (x y : E) (Q : List E) : (P ++ x :: Q).set P.length y=P ++ y :: Q:=by
 rw [List.set_append,if_neg (by omega),Nat.sub_self,List.set_cons_zero]
theorem swp_at (P : List E) (x : E) (M : List E) (y : E) (Q : List E) (i j : Nat) (hi : i=P.length) (hj : j=P.length + 1 + M.length) : swp e0 (P ++ x :: (M ++ y :: Q)) i j=P ++ y :: (M ++ x :: Q):=by
 subst hi
 have e1 : P ++ x :: (M ++ y :: Q)=(P ++ x :: M) ++ y :: Q:=by simp
 have l1 : (P ++ x :: M).length=j:=by rw [hj];simp;omega
 have g1 : gt_ e0 (P ++ x :: (M ++ y :: Q)) j=y:=by rw [e1,← l1];exact get_at e0 _ _ _
 have g0 : gt_ e0 (P ++ x :: (M ++ y :: Q)) P.length=x:=get_at e0 _ _ _
 unfold swp
 rw [g1,g0,set_at]
 have e2 : P ++ y :: (M ++ y :: Q)=(P ++ y :: M) ++ y :: Q:=by simp
 have l2 : (P ++ y :: M).length=j:=by rw [hj];simp;omega
 rw [e2,← l2,set_at]
 simp
theorem swp_comm (xs : List E) (i j : Nat) : swp e0 xs i j=swp e0 xs j i:=by
 unfold swp
 by_cases h : i=j
 ·subst h;rfl
 ·exact (List.set_comm _ _ h)
end
end Go.Proofs.Ytfiandejapgkoaa.P

/- A heap of rows in plain lists: container/heap's down, Init, Pop and Fix(0), and what they keep. -/
namespace Go.Proofs.Ytfiandejapgkoaa.P
set_option linter.unusedVariables false
set_option linter.unusedSectionVars false
section
variable {E : Type} (e0 : E) (lt : E→E→Bool) (n : Nat)
def pick (i : Nat) (p : List E) : Nat:=if 2 * i + 2 < n∧lt (gt_ e0 p (2 * i + 2)) (gt_ e0 p (2 * i + 1))=true then 2 * i + 2 else 2 * i + 1
def dn : Nat→Nat→List E→List E × Nat
 | 0,i,p=>(p,i)
 | f + 1,i,p=>if 2 * i + 1 < n then (if lt (gt_ e0 p (pick e0 lt n i p)) (gt_ e0 p i)=true then dn f (pick e0 lt n i p) (swp e0 p i (pick e0 lt n i p)) else (p,i)) else (p,i)
def initH : Nat→List E→List E
 | 0,p=>p
 | i + 1,p=>initH i (dn e0 lt n n i p).1
theorem pick_in {i : Nat} (h : 2 * i + 1 < n) (p : List E) : (pick e0 lt n i p=2 * i + 1 ∨ pick e0 lt n i p=2 * i + 2)∧pick e0 lt n i p < n:=by
 unfold pick
 split
 ·exact ⟨.inr rfl,by omega⟩
 ·exact ⟨.inl rfl,h⟩
theorem swp_perm (p : List E) (i j : Nat) (hi : i < p.length) (hj : j < p.length) : (swp e0 p i j).Perm p:=by
 have key : ∀ i j,i < j→j < p.length→(swp e0 p i j).Perm p:=by
  intro i j hij hj
  have e1 : p=p.take i ++ p[i] :: ((p.drop (i + 1)).take (j - (i + 1)) ++ p[j] :: p.drop (j + 1)):=by
   have a1 : p=p.take i ++ p[i] :: p.drop (i + 1):=by
    rw [← List.drop_eq_getElem_cons,List.take_append_drop]
   have a2 : p.drop (i + 1)=(p.drop (i + 1)).take (j - (i + 1)) ++ p[j] :: p.drop (j + 1):=by
    have:=(List.take_append_drop (j - (i + 1)) (p.drop (i + 1))).symm
    rw [List.drop_drop,show i + 1 + (j - (i + 1))=j by omega,List.drop_eq_getElem_cons hj] at this
    exact this
   rw [← a2]
   exact a1
  have e2:=swp_at e0 (p.take i) p[i] ((p.drop (i + 1)).take (j - (i + 1))) p[j] (p.drop (j + 1)) i j (by rw [List.length_take];omega) (by rw [List.length_take,List.length_take,List.length_drop];omega)
  rw [← e1] at e2
  rw [e2]
  refine List.Perm.trans ?_ (List.Perm.of_eq e1.symm)
  refine List.Perm.append_left _ ?_
  refine (List.Perm.cons _ List.perm_middle).trans ?_
  refine (List.Perm.swap _ _ _).trans ?_
  exact List.Perm.cons _ List.perm_middle.symm
 rcases Nat.lt_trichotomy i j with h|h|h
 ·exact key i j h hj
 ·subst h
  unfold swp
  rw [gt_lt e0 hi,List.set_set,List.set_getElem_self]
 ·rw [swp_comm]
  exact key j i h hi
theorem gt_swp (p : List E) (i j k : Nat) (hi : i < p.length) (hj : j < p.length) : gt_ e0 (swp e0 p i j) k=if k=j then gt_ e0 p i else if k=i then gt_ e0 p j else gt_ e0 p k:=by
 unfold swp gt_
 simp only [List.getD_eq_getElem?_getD,List.getElem?_set,List.length_set]
 by_cases h1 : j=k
 ·subst h1
  simp [hj]
 ·by_cases h2 : i=k
  ·subst h2
   simp [h1,Ne.symm h1,hi]
  ·simp [h1,h2,Ne.symm h1,Ne.symm h2]
theorem dn_perm : ∀ (f i : Nat) (p : List E),n≤p.length→(dn e0 lt n f i p).1.Perm p
 | 0,i,p,h=>List.Perm.refl _
 | f + 1,i,p,h=>by
  unfold dn
  split
  case isTrue h1 =>
   split
   ·have h2:=pick_in e0 lt n h1 p
    refine (dn_perm f _ _ (by rw [swp_length];exact h)).trans (swp_perm e0 p _ _ (by omega) (by omega))
   ·exact List.Perm.refl _
  case isFalse=>exact List.Perm.refl _
theorem dn_length (f i : Nat) (p : List E) (h : n≤p.length) : (dn e0 lt n f i p).1.length=p.length:=(dn_perm e0 lt n f i p h).length_eq
theorem drop_swp (p : List E) (i j : Nat) (hi : i < n) (hj : j < n) : (swp e0 p i j).drop n=p.drop n:=by
 unfold swp
 rw [List.drop_set_of_lt hj,List.drop_set_of_lt hi]
theorem dn_drop : ∀ (f i : Nat) (p : List E),(dn e0 lt n f i p).1.drop n=p.drop n
 | 0,i,p=>rfl
 | f + 1,i,p=>by
  unfold dn
  split
  case isTrue h1 =>
   split
   ·have h2:=pick_in e0 lt n h1 p
    rw [dn_drop f]
    exact drop_swp e0 n p _ _ (by omega) h2.2
   ·rfl
  case isFalse=>rfl
theorem initH_perm : ∀ (m : Nat) (p : List E),n≤p.length→(initH e0 lt n m p).Perm p
 | 0,p,h=>List.Perm.refl _
 | m + 1,p,h=>by
  unfold initH
  exact (initH_perm m _ (by rw [dn_length e0 lt n _ _ _ h];exact h)).trans (dn_perm e0 lt n _ _ _ h)
def HeapFrom (lo : Nat) (p : List E) : Prop:=∀ j,0 < j→j < n→lo≤(j - 1) / 2→lt (gt_ e0 p j) (gt_ e0 p ((j - 1) / 2))=false
variable (U : E→Prop)
structure LtOk : Prop where
 asym : ∀ a b,U a→U b→lt a b=true→lt b a=false
 tr : ∀ a b c,U a→U b→U c→lt b a=false→lt c b=false→lt c a=false
theorem gt_mem {p : List E} {i : Nat} (h : i < p.length) : gt_ e0 p i ∈ p:=by rw [gt_lt e0 h];exact List.getElem_mem h
theorem dn_heap (O : LtOk lt U) : ∀ (f i lo : Nat) (p : List E),n≤p.length→(∀ x ∈ p,U x)→lo≤i→n≤f + i →
  (∀ j,0 < j→j < n→lo≤(j - 1) / 2→(j - 1) / 2≠i→lt (gt_ e0 p j) (gt_ e0 p ((j - 1) / 2))=false) →
  (0 < i→lo≤(i - 1) / 2→∀ j,0 < j→j < n→(j - 1) / 2=i→lt (gt_ e0 p j) (gt_ e0 p ((i - 1) / 2))=false)→HeapFrom e0 lt n lo (dn e0 lt n f i p).1
 | 0,i,lo,p,hn,hU,hlo,hf,ha,hb=>fun j h0 hj hl=>ha j h0 hj hl (by omega)
 | f + 1,i,lo,p,hn,hU,hlo,hf,ha,hb=>by
  have gU : ∀ k,k < n→U (gt_ e0 p k):=fun k hk=>hU _ (gt_mem e0 (by omega))
  unfold dn
  split
  case isFalse h1=>exact fun j h0 hj hl=>ha j h0 hj hl (by omega)
  case isTrue h1 =>
   obtain ⟨hc,hcn⟩:=pick_in e0 lt n h1 p
   have hp : ∀ j,0 < j→j < n→(j - 1) / 2=i→j≠pick e0 lt n i p→lt (gt_ e0 p j) (gt_ e0 p (pick e0 lt n i p))=false:=by
    intro j h0 hj hji hne
    have h2 : j=2 * i + 1 ∨ j=2 * i + 2:=by omega
    unfold pick at hne ⊢
    split
    case isTrue h3 =>
     rw [if_pos h3] at hne
     have : j=2 * i + 1:=by omega
     subst this
     exact O.asym _ _ (gU _ (by omega)) (gU _ (by omega)) h3.2
    case isFalse h3 =>
     rw [if_neg h3] at hne
     have : j=2 * i + 2:=by omega
     subst this
     cases h4 : lt (gt_ e0 p (2 * i + 2)) (gt_ e0 p (2 * i + 1)) with
     | false=>rfl
     | true=>exact absurd ⟨hj,h4⟩ h3
   generalize pick e0 lt n i p=c at hc hcn hp
   split
   case isTrue h5 =>
    refine dn_heap O f c lo _ (by rw [swp_length];exact hn) (fun x hx=>hU x ((swp_perm e0 p i c (by omega) (by omega)).mem_iff.mp hx)) (by omega) (by omega) ?_ ?_
    ·intro j h0 hj hl hne
     rw [gt_swp e0 p i c j (by omega) (by omega),gt_swp e0 p i c _ (by omega) (by omega)]
     by_cases e1 : j=c
     ·subst e1
      rw [if_pos rfl,if_neg hne,if_pos (by omega)]
      exact O.asym _ _ (gU _ hcn) (gU _ (by omega)) h5
     ·rw [if_neg e1,if_neg hne]
      by_cases e2 : j=i
      ·subst e2
       rw [if_pos rfl,if_neg (by omega)]
       exact hb h0 hl c (by omega) hcn (by omega)
      ·rw [if_neg e2]
       by_cases e3 : (j - 1) / 2=i
       ·rw [if_pos e3]
        exact hp j h0 hj e3 e1
       ·rw [if_neg e3]
        exact ha j h0 hj hl e3
    ·intro h0 hl j hj0 hj hjc
     rw [show (c - 1) / 2=i by omega,gt_swp e0 p i c j (by omega) (by omega),gt_swp e0 p i c i (by omega) (by omega),if_neg (by omega : ¬ j=c),if_neg (by omega : ¬ j=i),if_neg (by omega : ¬ i=c),if_pos rfl]
     have:=ha j hj0 hj (by omega) (by omega)
     rw [hjc] at this
     exact this
   case isFalse h5 =>
    intro j h0 hj hl
    by_cases e3 : (j - 1) / 2=i
    ·rw [e3]
     have h6 : lt (gt_ e0 p c) (gt_ e0 p i)=false:=by simpa using h5
     by_cases e1 : j=c
     ·rw [e1];exact h6
     ·exact O.tr _ _ _ (gU _ (by omega)) (gU _ hcn) (gU _ hj) h6 (hp j h0 hj e3 e1)
    ·exact ha j h0 hj hl e3
theorem initH_heap (O : LtOk lt U) : ∀ (m : Nat) (p : List E),n≤p.length→(∀ x ∈ p,U x)→HeapFrom e0 lt n m p→HeapFrom e0 lt n 0 (initH e0 lt n m p)
 | 0,p,_,_,h=>h
 | m + 1,p,hn,hU,h=>by
  unfold initH
  refine initH_heap O m _ (by rw [dn_length e0 lt n _ _ _ hn];exact hn) (fun x hx=>hU x ((dn_perm e0 lt n n m p hn).mem_iff.mp hx)) ?_
  refine dn_heap e0 lt n U O n m m p hn hU (Nat.le_refl _) (by omega) (fun j h0 hj hl hne=>h j h0 hj (by omega)) (fun h0 hl=>by omega)
theorem heap_half (p : List E) : HeapFrom e0 lt n (n / 2) p:=fun j h0 hj hl=>by omega
theorem heap_root (O : LtOk lt U) (p : List E) (hn : n≤p.length) (hU : ∀ x ∈ p,U x) (h : HeapFrom e0 lt n 0 p) : ∀ (m j : Nat),j≤m→0 < j→j < n→lt (gt_ e0 p j) (gt_ e0 p 0)=false
 | 0,j,hm,h0,hj=>by omega
 | m + 1,j,hm,h0,hj=>by
  have h1:=h j h0 hj (Nat.zero_le _)
  by_cases e : (j - 1) / 2=0
  ·rw [e] at h1;exact h1
  ·have h2:=heap_root O p hn hU h m ((j - 1) / 2) (by omega) (by omega) (by omega)
   exact O.tr _ _ _ (hU _ (gt_mem e0 (by omega))) (hU _ (gt_mem e0 (by omega))) (hU _ (gt_mem e0 (by omega))) h2 h1
end
end Go.Proofs.Ytfiandejapgkoaa.P

/- The order of values and of rows. -/
namespace Go.Proofs.Ytfiandejapgkoaa.P
open Go.RowKit Go.Proofs.YtfiandejapgkoaaW.PrintWords Go.Proofs.YtfiandejapgkoaaW.PrintLast Go.Proofs.YtfiandejapgkoaaW.PrintMore
set_option linter.unusedVariables false
set_option linter.unusedSimpArgs false
theorem u8_tri (a b : UInt8) : (a < b∧¬ b < a) ∨ (b < a∧¬ a < b) ∨ (a=b∧¬ a < b∧¬ b < a):=by
 rcases Nat.lt_trichotomy a.toNat b.toNat with h|h|h
 ·exact Or.inl ⟨UInt8.lt_iff_toNat_lt.mpr h,fun h2=>by have:=UInt8.lt_iff_toNat_lt.mp h2;omega⟩
 ·have e : a=b:=UInt8.toNat_inj.mp h
  subst e
  exact Or.inr (Or.inr ⟨rfl,fun h2=>by have:=UInt8.lt_iff_toNat_lt.mp h2;omega,fun h2=>by have:=UInt8.lt_iff_toNat_lt.mp h2;omega⟩)
 ·exact Or.inr (Or.inl ⟨UInt8.lt_iff_toNat_lt.mpr h,fun h2=>by have:=UInt8.lt_iff_toNat_lt.mp h2;omega⟩)
theorem cb_anti : ∀ a b : List UInt8,Lib.compareBytes b a=- Lib.compareBytes a b
 | [],[]=>by simp [Lib.compareBytes]
 | [],_ :: _=>by simp [Lib.compareBytes]
 | _ :: _,[]=>by simp [Lib.compareBytes]
 | a :: xs,b :: ys=>by
  unfold Lib.compareBytes
  rcases u8_tri a b with ⟨h1,h2⟩|⟨h1,h2⟩|⟨h0,h1,h2⟩
  ·rw [if_neg h2,if_pos h1,if_pos h1];rfl
  ·rw [if_pos h1,if_neg h2,if_pos h1]
  ·rw [if_neg h2,if_neg h1,if_neg h1,if_neg h2];exact cb_anti xs ys
theorem cb_zero : ∀ a b : List UInt8,Lib.compareBytes a b=0 ↔ a=b
 | [],[]=>by simp [Lib.compareBytes]
 | [],_ :: _=>by simp [Lib.compareBytes]
 | _ :: _,[]=>by simp [Lib.compareBytes]
 | a :: xs,b :: ys=>by
  unfold Lib.compareBytes
  rcases u8_tri a b with ⟨h1,h2⟩|⟨h1,h2⟩|⟨h0,h1,h2⟩
  ·rw [if_pos h1]
   exact ⟨fun h=>by omega,fun h=>absurd h1 (by rw [(List.cons.inj h).1] at h2 ⊢;rw [(List.cons.inj h).1] at h1;exact h2)⟩
  ·rw [if_neg h2,if_pos h1]
   exact ⟨fun h=>by omega,fun h=>absurd h1 (by rw [(List.cons.inj h).1] at h1;rw [(List.cons.inj h).1] at h2;exact absurd h1 h2)⟩
  ·rw [if_neg h1,if_neg h2,cb_zero xs ys,h0]
   exact ⟨fun h=>by rw [h],fun h=>(List.cons.inj h).2⟩
theorem cb_trans : ∀ a b c : List UInt8,Lib.compareBytes a b≤0→Lib.compareBytes b c≤0→Lib.compareBytes a c≤0
 | [],_,[],_,_=>by simp [Lib.compareBytes]
 | [],_,_ :: _,_,_=>by simp [Lib.compareBytes]
 | _ :: _,[],_,h,_=>by simp [Lib.compareBytes] at h
 | _ :: _,_ :: _,[],_,h=>by simp [Lib.compareBytes] at h
 | a :: xs,b :: ys,c :: zs,h1,h2=>by
  unfold Lib.compareBytes at h1 h2 ⊢
  rcases u8_tri a b with ⟨p1,p2⟩|⟨p1,p2⟩|⟨p0,p1,p2⟩
  ·rcases u8_tri b c with ⟨q1,q2⟩|⟨q1,q2⟩|⟨q0,q1,q2⟩
   ·rw [if_pos (UInt8.lt_trans p1 q1)];omega
   ·rw [if_neg q2,if_pos q1] at h2;omega
   ·subst q0;rw [if_pos p1];omega
  ·rw [if_neg p2,if_pos p1] at h1;omega
  ·subst p0
   rw [if_neg p1,if_neg p2] at h1
   rcases u8_tri a c with ⟨q1,q2⟩|⟨q1,q2⟩|⟨q0,q1,q2⟩
   ·rw [if_pos q1];omega
   ·rw [if_neg q2,if_pos q1] at h2;omega
   ·rw [if_neg q1,if_neg q2] at h2 ⊢
    exact cb_trans xs ys zs h1 h2
def GV (v : XV) : Prop:=-9223372036854775808≤v.f0∧v.f0≤9223372036854775807
def sgn (x y : Int) : Int:=if x < y then -1 else if x > y then 1 else 0
def un (x : Int) : Int:=x % 18446744073709551616
def cmpV (t : Int) (a b : XV) : Int:=if fitT t a=true∧fitT t b=true then (if t=3 then Lib.compareBytes a.f1.data.toList b.f1.data.toList else if t=2 then sgn (un a.f0) (un b.f0) else sgn a.f0 b.f0) else 0
theorem cmpV_anti (t : Int) (a b : XV) : cmpV t b a=- cmpV t a b:=by
 unfold cmpV
 by_cases h : fitT t a=true∧fitT t b=true
 ·rw [if_pos h,if_pos h.symm]
  split
  ·exact cb_anti _ _
  ·split <;> (unfold sgn;split <;> split <;> (try split) <;> omega)
 ·rw [if_neg h,if_neg (fun q=>h q.symm)]
  rfl
theorem fit_empty {t : Int} {a : XV} (h : fitT t a=true) (h3 : t≠3) : a.f1=⟨#[]⟩:=by
 unfold fitT at h
 split at h
 ·have h2 : a.f1.toList=[]:=by simpa using h
  exact bytes_eq (by rw [h2];simp [ByteArray.toList_eq])
 ·first|exact absurd h (by simp)|(rw [if_neg h3] at h;exact absurd h (by simp))
theorem fit_zero {t : Int} {a : XV} (h : fitT t a=true) (h3 : t=3) : a.f0=0:=by
 subst h3
 unfold fitT at h
 rw [if_neg (by omega),if_pos rfl] at h
 split at h
 ·assumption
 ·exact absurd h (by simp)
theorem XV.ext2 {a b : XV} (h0 : a.f0=b.f0) (h1 : a.f1=b.f1) : a=b:=by cases a;cases b;simp only at h0 h1;rw [h0,h1]
theorem cmpV_zero (t : Int) (a b : XV) (ha : fitT t a=true) (hb : fitT t b=true) (ga : GV a) (gb : GV b) : cmpV t a b=0 ↔ a=b:=by
 unfold cmpV
 rw [if_pos ⟨ha,hb⟩]
 obtain ⟨g1,g2⟩:=ga
 obtain ⟨g3,g4⟩:=gb
 by_cases e : t=3
 ·rw [if_pos e,cb_zero]
  exact ⟨fun h=>XV.ext2 (by rw [fit_zero ha e,fit_zero hb e]) (ByteArray.ext (Array.toList_inj.mp h)),fun h=>by rw [h]⟩
 ·rw [if_neg e]
  have key : a=b ↔ a.f0=b.f0:=⟨fun h=>by rw [h],fun h=>XV.ext2 h (by rw [fit_empty ha e,fit_empty hb e])⟩
  rw [key]
  split
  ·unfold sgn un;split <;> (try split) <;> omega
  ·unfold sgn;split <;> (try split) <;> omega
theorem sgn_trans (x y z : Int) : sgn x y≤0→sgn y z≤0→sgn x z≤0:=by
 unfold sgn
 intro h1 h2
 split
 ·omega
 ·split
  ·exfalso
   by_cases p : x < y
   ·by_cases q : y < z
    ·omega
    ·rw [if_neg q] at h2
     by_cases r : y > z
     ·rw [if_pos r] at h2;omega
     ·omega
   ·rw [if_neg p] at h1
    by_cases r : x > y
    ·rw [if_pos r] at h1;omega
    ·by_cases q : y < z
     ·omega
     ·rw [if_neg q] at h2
      by_cases r : y > z
      ·rw [if_pos r] at h2;omega
      ·omega
  ·omega
def cmpC (t : Int) (a b : XV) : Int:=if t=3 then Lib.compareBytes a.f1.data.toList b.f1.data.toList else if t=2 then sgn (un a.f0) (un b.f0) else sgn a.f0 b.f0
theorem cmpV_fit {t : Int} {a b : XV} (ha : fitT t a=true) (hb : fitT t b=true) : cmpV t a b=cmpC t a b:=by
 unfold cmpV cmpC
 rw [if_pos ⟨ha,hb⟩]
theorem cmpV_trans (t : Int) (a b c : XV) (ha : fitT t a=true) (hb : fitT t b=true) (hc : fitT t c=true) : cmpV t a b≤0→cmpV t b c≤0→cmpV t a c≤0:=by
 rw [cmpV_fit ha hb,cmpV_fit hb hc,cmpV_fit ha hc]
 unfold cmpC
 by_cases e : t=3
 ·rw [if_pos e,if_pos e,if_pos e]
  exact cb_trans _ _ _
 ·rw [if_neg e,if_neg e,if_neg e]
  by_cases e2 : t=2
  ·rw [if_pos e2,if_pos e2,if_pos e2]
   exact sgn_trans _ _ _
  ·rw [if_neg e2,if_neg e2,if_neg e2]
   exact sgn_trans _ _ _
def cmpFrom (T : List Int) (a b : List XV) : Nat→Nat→Int
 | 0,_=>0
 | m + 1,i=>if cmpV (rd T i) (rdV a i) (rdV b i)=0 then cmpFrom T a b m (i + 1) else cmpV (rd T i) (rdV a i) (rdV b i)
def cmpRow (T : List Int) (K : Int) (a b : List XV) : Int:=cmpFrom T a b (min (min (min K.toNat T.length) a.length) b.length) 0
theorem cmpFrom_anti (T : List Int) (a b : List XV) : ∀ m i,cmpFrom T b a m i=- cmpFrom T a b m i
 | 0,i=>by simp [cmpFrom]
 | m + 1,i=>by
  unfold cmpFrom
  rw [cmpV_anti _ (rdV a i) (rdV b i),cmpFrom_anti T a b m (i + 1)]
  by_cases h : cmpV (rd T i) (rdV a i) (rdV b i)=0
  ·rw [if_pos (by omega),if_pos h]
  ·rw [if_neg (by omega),if_neg h]
def FitAt (T : List Int) (a : List XV) (m i : Nat) : Prop:=∀ j : Nat,i≤j→j < i + m→fitT (rd T j) (rdV a j)=true∧GV (rdV a j)
theorem FitAt.tail {T : List Int} {a : List XV} {m i : Nat} (h : FitAt T a (m + 1) i) : FitAt T a m (i + 1):=fun j h1 h2=>h j (by omega) (by omega)
theorem cmpFrom_trans (T : List Int) (a b c : List XV) : ∀ m i,FitAt T a m i→FitAt T b m i→FitAt T c m i→cmpFrom T a b m i≤0→cmpFrom T b c m i≤0→cmpFrom T a c m i≤0
 | 0,i,_,_,_=>by simp [cmpFrom]
 | m + 1,i,ha,hb,hc=>by
  obtain ⟨a1,a2⟩:=ha i (by omega) (by omega)
  obtain ⟨b1,b2⟩:=hb i (by omega) (by omega)
  obtain ⟨c1,c2⟩:=hc i (by omega) (by omega)
  have ih:=cmpFrom_trans T a b c m (i + 1) ha.tail hb.tail hc.tail
  have t1:=cmpV_trans (rd T i) _ _ _ a1 b1 c1
  have t2:=cmpV_trans (rd T i) _ _ _ c1 a1 b1
  have t3:=cmpV_trans (rd T i) _ _ _ b1 c1 a1
  have z1:=cmpV_zero _ _ _ a1 b1 a2 b2
  have z2:=cmpV_zero _ _ _ b1 c1 b2 c2
  have n1:=cmpV_anti (rd T i) (rdV a i) (rdV c i)
  have n2:=cmpV_anti (rd T i) (rdV b i) (rdV c i)
  have n3:=cmpV_anti (rd T i) (rdV a i) (rdV b i)
  unfold cmpFrom
  intro h1 h2
  split at h1
  ·split at h2
   ·rename_i e1 e2
    have e3 : cmpV (rd T i) (rdV a i) (rdV c i)=0:=by rw [z1.mp e1];exact e2
    rw [if_pos e3]
    exact ih h1 h2
   ·rename_i e1 e2
    rw [z1.mp e1,if_neg e2]
    exact h2
  ·split at h2
   ·rename_i e1 e2
    rw [← z2.mp e2,if_neg e1]
    exact h1
   ·rename_i e1 e2
    have h3:=t1 h1 h2
    split
    ·rename_i e3
     exfalso
     have : cmpV (rd T i) (rdV b i) (rdV a i)≤0:=t3 h2 (by omega)
     omega
    ·exact h3
end Go.Proofs.Ytfiandejapgkoaa.P

/- A stable sort by blocks and by symmetric merges, in plain lists: it puts in order, and keeps what there was. -/
namespace Go.Proofs.Ytfiandejapgkoaa.P
set_option linter.unusedVariables false
set_option linter.unusedSectionVars false
section
variable {E : Type} (e0 : E) (lt : E→E→Bool) (R : E→E→Prop) (U : E→Prop)
structure Ordl : Prop where
 tr : ∀ x y z,U x→U y→U z→R x y→R y z→R x z
 ir : ∀ x,U x→¬ R x x
def Ahead (x y : E) : Prop:=(lt y x=true ↔ R y x)∧(¬ R y x→R x y)
variable {e0 lt R U}
theorem Ordl.as (O : Ordl R U) {x y : E} (hx : U x) (hy : U y) (h : R x y) : ¬ R y x:=fun q=>O.ir x hx (O.tr x y x hx hy hx h q)
theorem pw_le {M : List E} (hM : M.Pairwise R) {i j : Nat} (hi : i < j) (hj : j < M.length) : R M[i] M[j]:=List.pairwise_iff_getElem.mp hM i j (by omega) hj hi
end
end Go.Proofs.Ytfiandejapgkoaa.P

/- A row made to fit fits. -/
namespace Go.Proofs.Ytfiandejapgkoaa.P
open Go.RowKit Go.Proofs.YtfiandejapgkoaaW.PrintWords Go.Proofs.YtfiandejapgkoaaW.PrintLast Go.Proofs.YtfiandejapgkoaaW.PrintMore
set_option linter.unusedVariables false
set_option linter.unusedSimpArgs false
theorem rdV_take (r : List XV) (n j : Nat) (h : j < n) : rdV (r.take n) j=rdV r j:=by
 show rd_T31 _ _=rd_T31 _ _
 by_cases hi : j < r.length
 ·rw [rdV_lt _ j (by rw [List.length_take];omega),rdV_lt r j hi,List.getElem_take]
 ·rw [rdV_ge _ j (by rw [List.length_take];omega),rdV_ge r j (by omega)]
end Go.Proofs.Ytfiandejapgkoaa.P

/- The document's Compare of values tells the same order. -/
namespace Go.Proofs.Ytfiandejapgkoaa.P
open Go.RowKit Go.Proofs.YtfiandejapgkoaaW.PrintWords Go.Proofs.YtfiandejapgkoaaW.PrintLast Go.Proofs.YtfiandejapgkoaaW.PrintMore
set_option linter.unusedVariables false
set_option linter.unusedSimpArgs false
def GR (r : List XV) : Prop:=∀ v ∈ r,GV v∧v.f1.size≤9223372036854775807
theorem GR.rdV {r : List XV} (h : GR r) (i : Nat) : GV (rdV r i)∧(P.rdV r i).f1.size≤9223372036854775807:=by
 by_cases hi : i < r.length
 ·show GV (rd_T31 r i)∧(rd_T31 r i).f1.size≤_
  rw [rdV_lt r i hi]
  exact h _ (List.getElem_mem hi)
 ·show GV (rd_T31 r i)∧(rd_T31 r i).f1.size≤_
  rw [rdV_ge r i (by omega)]
  exact ⟨⟨by simp,by simp⟩,by decide⟩
end Go.Proofs.Ytfiandejapgkoaa.P

/- The document's Compare of rows tells the same order. -/
namespace Go.Proofs.Ytfiandejapgkoaa.P
open Go.RowKit Go.Proofs.YtfiandejapgkoaaW.PrintWords Go.Proofs.YtfiandejapgkoaaW.PrintLast Go.Proofs.YtfiandejapgkoaaW.PrintMore
set_option linter.unusedVariables false
set_option linter.unusedSimpArgs false
end Go.Proofs.Ytfiandejapgkoaa.P

/- Rows that fit, as far as they go: their order. -/
namespace Go.Proofs.Ytfiandejapgkoaa.P
open Go.RowKit Go.Proofs.YtfiandejapgkoaaW.PrintWords Go.Proofs.YtfiandejapgkoaaW.PrintLast Go.Proofs.YtfiandejapgkoaaW.PrintMore
set_option linter.unusedVariables false
set_option linter.unusedSimpArgs false
structure RowOk (T : List Int) (a : List XV) : Prop where
 len : a.length≤T.length
 fit : FitAt T a a.length 0
 gr : GR a
theorem FitAt.mono {T : List Int} {a : List XV} {m m' : Nat} (h : FitAt T a m 0) (hm : m'≤m) : FitAt T a m' 0:=fun j h1 h2=>h j h1 (by omega)
theorem RowOk.take {T : List Int} {a : List XV} (h : RowOk T a) (n : Nat) : RowOk T (a.take n):=by
 have hl : (a.take n).length≤a.length:=by rw [List.length_take];omega
 refine ⟨by have:=h.len;omega,fun j h1 h2=>?_,fun v hv=>h.gr v (List.mem_of_mem_take hv)⟩
 rw [List.length_take] at h2
 rw [rdV_take a n j (by omega)]
 exact h.fit j h1 (by omega)
theorem cmpFrom_pre (T : List Int) (a b : List XV) : ∀ m' m i,m'≤m→cmpFrom T a b m i≤0→cmpFrom T a b m' i≤0
 | 0,_,_,_,_=>by simp [cmpFrom]
 | m' + 1,0,_,h,_=>by omega
 | m' + 1,m + 1,i,h,hc=>by
  simp only [cmpFrom] at hc ⊢
  split
  ·rename_i h0
   rw [if_pos h0] at hc
   exact cmpFrom_pre T a b m' m (i + 1) (by omega) hc
  ·rename_i h0
   rw [if_neg h0] at hc
   exact hc
theorem cmpRow_anti (T : List Int) (K : Int) (a b : List XV) : cmpRow T K b a=- cmpRow T K a b:=by
 unfold cmpRow
 rw [cmpFrom_anti,show min (min (min K.toNat T.length) b.length) a.length=min (min (min K.toNat T.length) a.length) b.length by omega]
theorem cmpRow_tr (T : List Int) (K : Int) {a b c : List XV} (ha : RowOk T a) (hb : RowOk T b) (hc : RowOk T c) (hf : min K.toNat T.length≤b.length) : cmpRow T K a b≤0→cmpRow T K b c≤0→cmpRow T K a c≤0:=by
 unfold cmpRow
 intro h1 h2
 exact cmpFrom_trans T a b c _ 0 (ha.fit.mono (by omega)) (hb.fit.mono (by omega)) (hc.fit.mono (by omega)) (cmpFrom_pre T a b _ _ 0 (by omega) h1) (cmpFrom_pre T b c _ _ 0 (by omega) h2)
theorem cmpRow_self (T : List Int) (K : Int) (a : List XV) : cmpRow T K a a=0:=by have:=cmpRow_anti T K a a;omega
structure Full (T : List Int) (K : Int) (a : List XV) : Prop where
 ok : RowOk T a
 key : min K.toNat T.length≤a.length
def InOrd (T : List Int) (K : Int) (l : List (List XV)) : Prop:=l.Pairwise (fun a b=>cmpRow T K a b≤0)
theorem InOrd.at {T : List Int} {K : Int} {l : List (List XV)} (h : InOrd T K l) {i j : Nat} (hij : i≤j) (hj : j < l.length) : cmpRow T K (rdR l i) (rdR l j)≤0:=by
 rw [show rdR l i=l[i] from rdR_lt l i (by omega),show rdR l j=l[j] from rdR_lt l j hj]
 rcases Nat.eq_or_lt_of_le hij with e|h1
 ·subst e;rw [cmpRow_self];omega
 ·exact List.pairwise_iff_getElem.mp h i j (by omega) hj h1
end Go.Proofs.Ytfiandejapgkoaa.P

/- The document's Sort puts rows in order. -/
namespace Go.Proofs.Ytfiandejapgkoaa.P
open Go.RowKit Go.Proofs.YtfiandejapgkoaaW.PrintWords Go.Proofs.YtfiandejapgkoaaW.PrintLast Go.Proofs.YtfiandejapgkoaaW.PrintMore
set_option linter.unusedVariables false
set_option linter.unusedSimpArgs false
def insR (T : List Int) (K : Int) (x : List XV) : List (List XV)→List (List XV)
 | []=>[x]
 | y :: l=>if cmpRow T K y x > 0 then x :: y :: l else y :: insR T K x l
theorem insR_cons (T : List Int) (K : Int) (x y : List XV) (l : List (List XV)) : insR T K x (y :: l)=if cmpRow T K y x > 0 then x :: y :: l else y :: insR T K x l:=rfl
def sortR (T : List Int) (K : Int) (l acc : List (List XV)) : List (List XV):=l.foldl (fun a x=>insR T K x a) acc
end Go.Proofs.Ytfiandejapgkoaa.P

/- Rows' numbers in order, and the document's sort of the rows. -/
namespace Go.Proofs.Ytfiandejapgkoaa.P
open Go.RowKit Go.Proofs.YtfiandejapgkoaaW.PrintWords Go.Proofs.YtfiandejapgkoaaW.PrintLast
set_option linter.unusedVariables false
theorem perm_uniq {R : Nat→Nat→Prop} : ∀ (l1 l2 : List Nat),l1.Perm l2→l1.Pairwise R→l2.Pairwise R→(∀ x ∈ l1,∀ y ∈ l1,R x y→¬ R y x)→l1=l2
 | [],l2,hp,_,_,_=>(List.Perm.nil_eq hp)
 | a :: l1,l2,hp,h1,h2,hA=>by
  cases l2 with
  | nil=>exact absurd hp.symm (by simp)
  | cons b l2 =>
   obtain ⟨p1,p2⟩:=List.pairwise_cons.mp h1
   obtain ⟨q1,q2⟩:=List.pairwise_cons.mp h2
   have hab : a=b:=by
    have ha : a ∈ b :: l2:=hp.mem_iff.mp (by simp)
    have hb : b ∈ a :: l1:=hp.mem_iff.mpr (by simp)
    rcases List.mem_cons.mp ha with h|h
    ·exact h
    ·rcases List.mem_cons.mp hb with h'|h'
     ·exact h'.symm
     ·exact absurd (p1 b h') (hA b hb a (by simp) (q1 a h))
   subst hab
   rw [perm_uniq l1 l2 (List.Perm.cons_inv hp) p2 q2 (fun x hx y hy=>hA x (by simp [hx]) y (by simp [hy]))]
def insN (cf : Nat→Nat→Int) (x : Nat) : List Nat→List Nat
 | []=>[x]
 | y :: l=>if cf y x > 0 then x :: y :: l else y :: insN cf x l
theorem insN_perm (cf : Nat→Nat→Int) (x : Nat) : ∀ l,(insN cf x l).Perm (x :: l)
 | []=>List.Perm.refl _
 | y :: l=>by
  unfold insN
  split
  ·exact List.Perm.refl _
  ·exact ((insN_perm cf x l).cons y).trans (List.Perm.swap x y l)
theorem insN_map (T : List Int) (K : Int) (l : List (List XV)) (x : Nat) : ∀ ys : List Nat,(insN (fun i j=>cmpRow T K (rdR l (i : Nat)) (rdR l (j : Nat))) x ys).map (fun i=>rdR l (i : Nat))=insR T K (rdR l (x : Nat)) (ys.map fun i=>rdR l (i : Nat))
 | []=>rfl
 | y :: ys=>by
  rw [List.map_cons,insR_cons]
  unfold insN
  split
  ·rfl
  ·rw [List.map_cons,insN_map T K l x ys]
theorem insN_ord {cf : Nat→Nat→Int} {R : Nat→Nat→Prop} {N : Nat} (O : Ordl R (· < N)) (h1 : ∀ x y,x < N→y < x→(cf y x > 0→R x y)∧(¬ cf y x > 0→R y x)) (x : Nat) (hx : x < N) : ∀ l : List Nat,(∀ y ∈ l,y < x)→l.Pairwise R→(insN cf x l).Pairwise R
 | [],_,_=>List.pairwise_singleton _ _
 | y :: l,hl,hp=>by
  obtain ⟨p1,p2⟩:=List.pairwise_cons.mp hp
  have hyx:=hl y (by simp)
  unfold insN
  split
  case isTrue q =>
   have hr:=(h1 x y hx hyx).1 q
   refine List.pairwise_cons.mpr ⟨fun z hz=>?_,hp⟩
   rcases List.mem_cons.mp hz with rfl|hz
   ·exact hr
   ·exact O.tr x y z hx (by show y < N;omega) (by have:=hl z (by simp [hz]);show z < N;omega) hr (p1 z hz)
  case isFalse q =>
   refine List.pairwise_cons.mpr ⟨fun z hz=>?_,insN_ord O h1 x hx l (fun z hz=>hl z (by simp [hz])) p2⟩
   rcases List.mem_cons.mp ((insN_perm cf x l).mem_iff.mp hz) with rfl|hz
   ·exact (h1 z y hx hyx).2 q
   ·exact p1 z hz
def sortN (cf : Nat→Nat→Int) (l acc : List Nat) : List Nat:=l.foldl (fun a x=>insN cf x a) acc
theorem sortN_spec {cf : Nat→Nat→Int} {R : Nat→Nat→Prop} {N : Nat} (O : Ordl R (· < N)) (h1 : ∀ x y,x < N→y < x→(cf y x > 0→R x y)∧(¬ cf y x > 0→R y x)) : ∀ (d i : Nat) (acc : List Nat),i + d=N→acc.Perm (List.range i)→acc.Pairwise R→(sortN cf (List.range' i d) acc).Perm (List.range N)∧(sortN cf (List.range' i d) acc).Pairwise R
 | 0,i,acc,hi,hp,hs=>by
  obtain rfl : i=N:=by omega
  exact ⟨hp,hs⟩
 | d + 1,i,acc,hi,hp,hs=>by
  rw [List.range'_succ]
  show (sortN cf (List.range' (i + 1) d) (insN cf i acc)).Perm _∧_
  refine sortN_spec O h1 d (i + 1) (insN cf i acc) (by omega) ?_ (insN_ord O h1 i (by omega) acc (fun y hy=>List.mem_range.mp (hp.mem_iff.mp hy)) hs)
  refine (insN_perm cf i acc).trans ?_
  rw [List.range_succ]
  exact (hp.cons i).trans (List.perm_append_comm (l₁:=[i]))
section
variable (T : List Int) (K : Int) (l : List (List XV)) (hF : ∀ r ∈ l,Full T K r)
def CFn (i j : Nat) : Int:=cmpRow T K (rdR l (i : Nat)) (rdR l (j : Nat))
def RSn (i j : Nat) : Prop:=CFn T K l i j < 0 ∨ (CFn T K l i j=0∧i < j)
include hF
theorem full_at (i : Nat) (hi : i < l.length) : Full T K (rdR l (i : Nat)):=by rw [show rdR l (i : Nat)=l[i] from rdR_lt l i hi];exact hF _ (List.getElem_mem hi)
theorem cf_tr {x y z : Nat} (hx : x < l.length) (hy : y < l.length) (hz : z < l.length) (h1 : CFn T K l x y≤0) (h2 : CFn T K l y z≤0) : CFn T K l x z≤0 :=
 cmpRow_tr T K (full_at T K l hF x hx).ok (full_at T K l hF y hy).ok (full_at T K l hF z hz).ok (full_at T K l hF y hy).key h1 h2
omit hF in
theorem cf_anti (x y : Nat) : CFn T K l y x=- CFn T K l x y:=cmpRow_anti T K _ _
theorem ord_O : Ordl (RSn T K l) (· < l.length):=by
 refine ⟨fun x y z hx hy hz h1 h2=>?_,fun x hx h=>?_⟩
 ·have a1:=cf_anti T K l x y
  have a2:=cf_anti T K l y z
  have a3:=cf_anti T K l x z
  have t1:=cf_tr T K l hF (x:=x) (y:=y) (z:=z) hx hy hz
  have t2:=cf_tr T K l hF (x:=z) (y:=x) (z:=y) hz hx hy
  have t3:=cf_tr T K l hF (x:=y) (y:=z) (z:=x) hy hz hx
  unfold RSn at *
  omega
 ·have:=cf_anti T K l x x
  unfold RSn at h
  omega
theorem sort_uniq (out : List Nat) (h1 : out.Perm (List.range l.length)) (h2 : out.Pairwise (RSn T K l)) : out.map (fun i=>rdR l (i : Nat))=sortR T K l []:=by
 obtain ⟨q1,q2⟩:=sortN_spec (cf:=CFn T K l) (ord_O T K l hF) (fun x y hx hyx=>by
  have a1:=cf_anti T K l x y
  unfold RSn
  omega) l.length 0 [] (by omega) (List.Perm.refl _) List.Pairwise.nil
 have O:=ord_O T K l hF
 rw [perm_uniq _ _ (h1.trans q1.symm) h2 q2 (fun x hx y hy h1' h2'=>by
  have hx' : x < l.length:=List.mem_range.mp (h1.mem_iff.mp hx)
  have hy' : y < l.length:=List.mem_range.mp (h1.mem_iff.mp hy)
  exact O.ir x hx' (O.tr x y x hx' hy' hx' h1' h2'))]
 have key : ∀ (xs acc : List Nat),(sortN (CFn T K l) xs acc).map (fun i=>rdR l (i : Nat))=sortR T K (xs.map fun i=>rdR l (i : Nat)) (acc.map fun i=>rdR l (i : Nat)):=by
  intro xs
  induction xs with
  | nil=>intro acc;rfl
  | cons x xs ih =>
   intro acc
   show (sortN (CFn T K l) xs (insN (CFn T K l) x acc)).map _=sortR T K (xs.map _) (insR T K (rdR l (x : Nat)) (acc.map _))
   rw [ih,← insN_map]
   rfl
 rw [key,List.map_nil]
 congr 1
 apply List.ext_getElem
 ·simp
 ·intro i h1 h2
  simp only [List.getElem_map,List.getElem_range',Nat.zero_add,Nat.one_mul]
  exact rdR_lt l i h2
end
end Go.Proofs.Ytfiandejapgkoaa.P

