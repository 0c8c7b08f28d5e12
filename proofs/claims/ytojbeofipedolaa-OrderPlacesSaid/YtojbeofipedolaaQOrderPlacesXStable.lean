/- Texts of OrderPlaces. Merged: XStable. -/
import Derived.Test.YtojbeofipedolaaQOrderPlacesHBase
/- A stable sort by blocks and by symmetric merges, in plain lists: what it does, step by step. -/
namespace Go.Proofs.Ytojbeofipedolaa.P
set_option linter.unusedVariables false
set_option linter.unusedSectionVars false
section
variable {E : Type} (e0 : E) (lt : E→E→Bool)
def gt_ (xs : List E) (i : Nat) : E:=xs.getD i e0
theorem gt_lt {xs : List E} {i : Nat} (h : i < xs.length) : gt_ e0 xs i=xs[i]:=by simp [gt_,List.getD,h]
def swp (xs : List E) (i j : Nat) : List E:=(xs.set i (gt_ e0 xs j)).set j (gt_ e0 xs i)
theorem swp_length (xs : List E) (i j : Nat) : (swp e0 xs i j).length=xs.length:=by simp [swp]
def bsr (p : Nat→Bool) : Nat→Nat→Nat→Nat
 | 0,i,_=>i
 | m + 1,i,j=>if i < j then (if p ((i + j) / 2)=true then bsr p m i ((i + j) / 2) else bsr p m ((i + j) / 2 + 1) j) else i
def insIn (a : Nat) : Nat→List E→List E
 | 0,xs=>xs
 | j + 1,xs=>if a < j + 1∧lt (gt_ e0 xs (j + 1)) (gt_ e0 xs j)=true then insIn a j (swp e0 xs (j + 1) j) else xs
def insSort (a : Nat) : Nat→Nat→List E→List E
 | 0,_,xs=>xs
 | d + 1,i,xs=>insSort a d (i + 1) (insIn e0 lt a i xs)
def swapR (a b : Nat) : Nat→Nat→List E→List E
 | 0,_,xs=>xs
 | d + 1,i,xs=>swapR a b d (i + 1) (swp e0 xs (a + i) (b + i))
def rot (m : Nat) : Nat→Nat→Nat→List E→List E
 | 0,i,_,xs=>xs
 | f + 1,i,j,xs=>if i=j then swapR e0 (m - i) m i 0 xs else if j < i then rot m f (i - j) j (swapR e0 (m - i) m j 0 xs) else rot m f i (j - i) (swapR e0 (m - i) (m + j - i) i 0 xs)
def goUp : Nat→Nat→List E→List E
 | 0,_,xs=>xs
 | d + 1,k,xs=>goUp d (k + 1) (swp e0 xs k (k + 1))
def goDn : Nat→Nat→List E→List E
 | 0,_,xs=>xs
 | d + 1,k,xs=>goDn d (k - 1) (swp e0 xs k (k - 1))
def symM : Nat→Nat→Nat→Nat→List E→List E
 | 0,_,_,_,xs=>xs
 | f + 1,a,m,b,xs =>
  if m - a=1 then
   let i:=bsr (fun h=>!lt (gt_ e0 xs h) (gt_ e0 xs a)) (b - m) m b
   goUp e0 (i - 1 - a) a xs
  else if b - m=1 then
   let i:=bsr (fun h=>lt (gt_ e0 xs m) (gt_ e0 xs h)) (m - a) a m
   goDn e0 (m - i) m xs
  else
   let mid:=(a + b) / 2
   let n:=mid + m
   let s0:=if m > mid then n - b else a
   let r0:=if m > mid then mid else m
   let s:=bsr (fun c=>lt (gt_ e0 xs (n - 1 - c)) (gt_ e0 xs c)) (r0 - s0) s0 r0
   let e:=n - s
   let x1:=if s < m∧m < e then rot e0 m (e - s) (m - s) (e - m) xs else xs
   let x2:=if a < s∧s < mid then symM f a s mid x1 else x1
   if mid < e∧e < b then symM f mid e b x2 else x2
theorem bsr_spec (p : Nat→Bool) (lo hi : Nat) (hm : ∀ x y,lo≤x→x≤y→y < hi→p x=true→p y=true) : ∀ (f i j : Nat),j - i≤f→lo≤i→i≤j→j≤hi→(∀ x,lo≤x→x < i→p x=false)→(∀ x,j≤x→x < hi→p x=true) →
  i≤bsr p f i j∧bsr p f i j≤j∧(∀ x,lo≤x→x < bsr p f i j→p x=false)∧(∀ x,bsr p f i j≤x→x < hi→p x=true)
 | 0,i,j,hf,h0,hij,hj,h1,h2=>by
  obtain rfl : i=j:=by omega
  exact ⟨Nat.le_refl _,Nat.le_refl _,h1,h2⟩
 | f + 1,i,j,hf,h0,hij,hj,h1,h2=>by
  unfold bsr
  by_cases c : i < j
  ·rw [if_pos c]
   by_cases q : p ((i + j) / 2)=true
   ·rw [if_pos q]
    obtain ⟨a1,a2,a3,a4⟩:=bsr_spec p lo hi hm f i ((i + j) / 2) (by omega) h0 (by omega) (by omega) h1 (fun x hx hx2=>hm _ x (by omega) hx hx2 q)
    exact ⟨a1,by omega,a3,a4⟩
   ·rw [if_neg q]
    have q' : p ((i + j) / 2)=false:=by simpa using q
    obtain ⟨a1,a2,a3,a4⟩:=bsr_spec p lo hi hm f ((i + j) / 2 + 1) j (by omega) (by omega) (by omega) hj (fun x hx hx2=>by
     cases hpx : p x with
     | false=>rfl
     | true =>
      have:=hm x ((i + j) / 2) hx (by omega) (by omega) hpx
      rw [q'] at this
      exact absurd this (by simp)) h2
    exact ⟨by omega,a2,a3,a4⟩
  ·rw [if_neg c]
   obtain rfl : i=j:=by omega
   exact ⟨Nat.le_refl _,Nat.le_refl _,h1,h2⟩
theorem bsr_in (p : Nat→Bool) : ∀ (f i j : Nat),i≤j→i≤bsr p f i j∧bsr p f i j≤j
 | 0,i,j,h=>⟨Nat.le_refl _,h⟩
 | f + 1,i,j,h=>by
  unfold bsr
  split
  ·split
   ·have:=bsr_in p f i ((i + j) / 2) (by omega);omega
   ·have:=bsr_in p f ((i + j) / 2 + 1) j (by omega);omega
  ·omega
theorem bsr_fuel (p : Nat→Bool) : ∀ m m' i j,j - i≤m→j - i≤m'→bsr p m i j=bsr p m' i j
 | 0,0,i,j,_,_=>rfl
 | 0,m' + 1,i,j,h,_=>by rw [bsr,bsr,if_neg (by omega)]
 | m + 1,0,i,j,_,h=>by rw [bsr,bsr,if_neg (by omega)]
 | m + 1,m' + 1,i,j,h,h'=>by
  rw [bsr,bsr]
  split
  ·split
   ·exact bsr_fuel p m m' _ _ (by omega) (by omega)
   ·exact bsr_fuel p m m' _ _ (by omega) (by omega)
  ·rfl
theorem get_at (P : List E) (x : E) (Q : List E) : gt_ e0 (P ++ x :: Q) P.length=x:=by
 rw [gt_lt e0 (by simp)]
 simp
theorem set_at (P : List E) (x y : E) (Q : List E) : (P ++ x :: Q).set P.length y=P ++ y :: Q:=by
 rw [List.set_append,if_neg (by omega),Nat.sub_self,List.set_cons_zero]
theorem swp_at (P : List E) (x : E) (M : List E) (y : E) (Q : List E) (i j : Nat) (hi : i=P.length) (hj : j=P.length + 1 + M.length) : swp e0 (P ++ x :: (M ++ y :: Q)) i j=P ++ y :: (M ++ x :: Q):=by
 subst hi
 have e1 : P ++ x :: (M ++ y :: Q)=(P ++ x :: M) ++ y :: Q:=by simp
 have l1 : (P ++ x :: M).length=j:=by rw [hj];simp;omega
 have g1 : gt_ e0 (P ++ x :: (M ++ y :: Q)) j=y:=by rw [e1,← l1];exact get_at e0 _ _ _
 have g0 : gt_ e0 (P ++ x :: (M ++ y :: Q)) P.length=x:=get_at e0 _ _ _
 unfold swp
 rw [g1,g0,set_at]
 have e2 : P ++ y :: (M ++ y :: Q)=(P ++ y :: M) ++ y :: Q:=by simp
 have l2 : (P ++ y :: M).length=j:=by rw [hj];simp;omega
 rw [e2,← l2,set_at]
 simp
theorem swp_comm (xs : List E) (i j : Nat) : swp e0 xs i j=swp e0 xs j i:=by
 unfold swp
 by_cases h : i=j
 ·subst h;rfl
 ·exact (List.set_comm _ _ h)
theorem swapR_at : ∀ (U V P M Q : List E) (a b d i : Nat),U.length=d→V.length=d→a + i=P.length→b + i=P.length + d + M.length→swapR e0 a b d i (P ++ (U ++ (M ++ (V ++ Q))))=P ++ (V ++ (M ++ (U ++ Q)))
 | [],[],P,M,Q,a,b,d,i,hu,hv,ha,hb=>by
  obtain rfl : d=0:=by simpa using hu.symm
  rfl
 | u :: U,v :: V,P,M,Q,a,b,d,i,hu,hv,ha,hb=>by
  obtain ⟨d',rfl⟩ : ∃ d',d=d' + 1:=⟨U.length,by simpa using hu.symm⟩
  simp only [List.length_cons,Nat.add_right_cancel_iff] at hu hv
  unfold swapR
  have e1 : P ++ ((u :: U) ++ (M ++ ((v :: V) ++ Q)))=P ++ u :: ((U ++ M) ++ v :: (V ++ Q)):=by simp
  rw [e1,swp_at e0 P u (U ++ M) v (V ++ Q) (a + i) (b + i) ha (by simp;omega)]
  have ih:=swapR_at U V (P ++ [v]) (M ++ [u]) Q a b d' (i + 1) hu hv (by simp;omega) (by simp;omega)
  have e2 : P ++ v :: ((U ++ M) ++ u :: (V ++ Q))=(P ++ [v]) ++ (U ++ ((M ++ [u]) ++ (V ++ Q))):=by simp
  rw [e2,ih]
  simp
 | [],v :: V,P,M,Q,a,b,d,i,hu,hv,ha,hb=>by simp at hu hv;omega
 | u :: U,[],P,M,Q,a,b,d,i,hu,hv,ha,hb=>by simp at hu hv;omega
theorem tda (n : Nat) (l X : List E) : l.take n ++ (l.drop n ++ X)=l ++ X:=by rw [← List.append_assoc,List.take_append_drop]
theorem rot_at : ∀ (f : Nat) (L R P Q : List E) (m i j : Nat),i + j≤f + 1→L.length=i→R.length=j→0 < i→0 < j→m=P.length + i→rot e0 m f i j (P ++ (L ++ (R ++ Q)))=P ++ (R ++ (L ++ Q))
 | 0,L,R,P,Q,m,i,j,hf,hl,hr,hi,hj,hm=>by omega
 | f + 1,L,R,P,Q,m,i,j,hf,hl,hr,hi,hj,hm=>by
  unfold rot
  by_cases c : i=j
  ·rw [if_pos c]
   have:=swapR_at e0 L R P [] Q (m - i) m i 0 hl (by omega) (by omega) (by simp;omega)
   simpa using this
  ·rw [if_neg c]
   by_cases c2 : j < i
   ·rw [if_pos c2]
    have hU : (L.take j).length=j:=by rw [List.length_take];omega
    have hL' : (L.drop j).length=i - j:=by rw [List.length_drop];omega
    have e1 : P ++ (L ++ (R ++ Q))=P ++ (L.take j ++ (L.drop j ++ (R ++ Q))):=by rw [tda]
    rw [e1,swapR_at e0 (L.take j) R P (L.drop j) Q (m - i) m j 0 hU hr (by omega) (by rw [hL'];omega)]
    have ih:=rot_at f (L.drop j) (L.take j) (P ++ R) Q m (i - j) j (by omega) hL' hU (by omega) hj (by rw [List.length_append];omega)
    have e2 : P ++ (R ++ (L.drop j ++ (L.take j ++ Q)))=(P ++ R) ++ (L.drop j ++ (L.take j ++ Q)):=by simp
    rw [e2,ih,List.append_assoc,tda]
   ·rw [if_neg c2]
    have hR' : (R.take (j - i)).length=j - i:=by rw [List.length_take];omega
    have hV : (R.drop (j - i)).length=i:=by rw [List.length_drop];omega
    have e1 : P ++ (L ++ (R ++ Q))=P ++ (L ++ (R.take (j - i) ++ (R.drop (j - i) ++ Q))):=by rw [tda]
    rw [e1,swapR_at e0 L (R.drop (j - i)) P (R.take (j - i)) Q (m - i) (m + j - i) i 0 hl hV (by omega) (by rw [hR'];omega)]
    have ih:=rot_at f (R.drop (j - i)) (R.take (j - i)) P (L ++ Q) m i (j - i) (by omega) hV hR' hi (by omega) hm
    rw [ih,tda]
theorem goUp_at : ∀ (M P Q : List E) (x : E) (k : Nat),k=P.length→goUp e0 M.length k (P ++ x :: (M ++ Q))=P ++ (M ++ x :: Q)
 | [],P,Q,x,k,hk=>rfl
 | y :: M,P,Q,x,k,hk=>by
  show goUp e0 M.length (k + 1) (swp e0 (P ++ x :: ((y :: M) ++ Q)) k (k + 1))=_
  have:=swp_at e0 P x [] y (M ++ Q) k (k + 1) hk (by simp;omega)
  simp only [List.nil_append] at this
  rw [show P ++ x :: ((y :: M) ++ Q)=P ++ x :: y :: (M ++ Q) by simp,this]
  have ih:=goUp_at M (P ++ [y]) Q x (k + 1) (by simp;omega)
  rw [show P ++ y :: x :: (M ++ Q)=(P ++ [y]) ++ x :: (M ++ Q) by simp,ih]
  simp
theorem goDn_at : ∀ (n : Nat) (M P Q : List E) (x : E) (k : Nat),M.length=n→k=P.length + M.length→goDn e0 n k (P ++ (M ++ x :: Q))=P ++ x :: (M ++ Q)
 | 0,M,P,Q,x,k,hn,hk=>by
  obtain rfl : M=[]:=List.length_eq_zero_iff.mp hn
  rfl
 | n + 1,M,P,Q,x,k,hn,hk=>by
  obtain ⟨M',y,rfl⟩ : ∃ M' y,M=M' ++ [y]:=by
   have h : M≠[]:=by intro q;rw [q] at hn;simp at hn
   exact ⟨M.dropLast,M.getLast h,(List.dropLast_concat_getLast h).symm⟩
  have hn' : M'.length=n:=by simpa using hn
  simp only [List.length_append,List.length_singleton] at hk
  show goDn e0 n (k - 1) (swp e0 (P ++ ((M' ++ [y]) ++ x :: Q)) k (k - 1))=_
  have:=swp_at e0 (P ++ M') y [] x Q (k - 1) k (by rw [List.length_append];omega) (by rw [List.length_append];simp;omega)
  simp only [List.nil_append] at this
  rw [show P ++ ((M' ++ [y]) ++ x :: Q)=(P ++ M') ++ y :: x :: Q by simp,swp_comm,this]
  have ih:=goDn_at n M' P (y :: Q) x (k - 1) hn' (by omega)
  rw [show (P ++ M') ++ x :: y :: Q=P ++ (M' ++ x :: (y :: Q)) by simp,ih]
  simp
end
end Go.Proofs.Ytojbeofipedolaa.P

