/- The row of MergeStable. Merged: SMergeStable, PureMergeStable, RMergeStable. -/
import Derived.Test.YtfiandejapgkoaaQMergeStablePx4
import Derived.Test.YtfiandejapgkoaaQMergeStableO
import Derived.Test.YtfiandejapgkoaaMMergeStable1
import Derived.Test.YtfiandejapgkoaaQMergeStablePx3
import Derived.Test.YtfiandejapgkoaaRows
import Derived.WalkKit
import Derived.ProofKit
import Derived.OpenShut
import Derived.ShutString
import Derived.ChangeOld
import Derived.Below
import Derived.SizedLaws
namespace Go.Proofs.Ytfiandejapgkoaa.P
open Go.RowKit Go.Proofs.YtfiandejapgkoaaW.PrintWords
def thresherlaw14_MergeStable.PureG : Prop:=∀ (x0 : List (List Int)),(x0.length≤maxLen∧∀ a ∈ x0,(a.length≤maxLen∧∀ aa ∈ a,(Lit.int .u8 aa).wf=true))→∃ k,thresherlaw14_MergeStable.f k x0=some true
end Go.Proofs.Ytfiandejapgkoaa.P

/- Rows of one key stand in the order of their parts, and as they stood in them: the plain law. -/
namespace Go.Proofs.Ytfiandejapgkoaa.Pure
open Go.RowKit Go.Proofs.Ytfiandejapgkoaa.P Go.Proofs.YtfiandejapgkoaaW.PrintWords Go.Proofs.YtfiandejapgkoaaW.PrintLast
set_option linter.unusedVariables false
def mkR (q n : Int) : List XV:=[⟨q,⟨#[]⟩⟩,⟨n,⟨#[]⟩⟩]
theorem fit_none (q : Int) : fitT 1 (⟨q,⟨#[]⟩⟩ : XV)=true:=by simp [fitT,ByteArray.toList_eq]
theorem cmp_mkR (q n q' n' : Int) : cmpRow [1,1] 1 (mkR q n) (mkR q' n')=sgn q q':=by
 have e : cmpV 1 (⟨q,⟨#[]⟩⟩ : XV) ⟨q',⟨#[]⟩⟩=sgn q q':=by
  unfold cmpV
  rw [if_pos ⟨fit_none q,fit_none q'⟩,if_neg (by omega),if_neg (by omega)]
 show (if cmpV 1 (⟨q,⟨#[]⟩⟩ : XV) ⟨q',⟨#[]⟩⟩=0 then 0 else cmpV 1 (⟨q,⟨#[]⟩⟩ : XV) ⟨q',⟨#[]⟩⟩)=_
 rw [e]
 split
 ·omega
 ·rfl
theorem full_mkR {q n : Int} (h1 : 0≤q∧q≤7) (h2 : 0≤n∧n≤100000) : Full [1,1] 1 (mkR q n):=by
 refine ⟨⟨by simp [mkR],fun j hj1 hj2=>?_,fun v hv=>?_⟩,by simp [mkR]⟩
 ·have hj : j < 2:=by simp [mkR] at hj2;omega
  match j,hj with
  | 0,_=>exact ⟨fit_none q,by show -9223372036854775808≤q;omega,by show q≤9223372036854775807;omega⟩
  | 1,_=>exact ⟨fit_none n,by show -9223372036854775808≤n;omega,by show n≤9223372036854775807;omega⟩
 ·simp only [mkR,List.mem_cons,List.not_mem_nil,or_false] at hv
  rcases hv with rfl|rfl
  ·exact ⟨⟨by show -9223372036854775808≤q;omega,by show q≤9223372036854775807;omega⟩,Nat.zero_le _⟩
  ·exact ⟨⟨by show -9223372036854775808≤n;omega,by show n≤9223372036854775807;omega⟩,Nat.zero_le _⟩
def POrd (p : List (List XV)) : Prop:=p.Pairwise fun a b=>(rdV a 0).f0≤(rdV b 0).f0
structure St (ps : List (List (List XV))) (rows : List (List XV)) (n i key k : Nat) : Prop where
 num : ∀ j (h : j < (ps.flatten ++ rows).length),∃ q : Int,0≤q∧q≤7∧(ps.flatten ++ rows)[j]=mkR q j
 len : (ps.flatten ++ rows).length=n
 ord : ∀ p ∈ ps,POrd p
 cur : POrd rows
 top : ∀ r ∈ rows,(rdV r 0).f0≤key
 few : rows.length≤12 * key + k
 psl : ps.length=i
 all : n≤96 * i + rows.length
section
variable {ps : List (List (List XV))} {rows : List (List XV)} {n i key k : Nat}
theorem St.skip (h : St ps rows n i key k) : St ps rows n i key (k + 1):=⟨h.num,h.len,h.ord,h.cur,h.top,by have:=h.few;omega,h.psl,h.all⟩
theorem St.keyed (h : St ps rows n i key k) (hk : k≤12) : St ps rows n i (key + 1) 0:=⟨h.num,h.len,h.ord,h.cur,fun r hr=>by have:=h.top r hr;omega,by have:=h.few;omega,h.psl,h.all⟩
theorem St.part (h : St ps rows n i 8 0) : St (ps ++ [rows]) [] n (i + 1) 0 0:=by
 have e : (ps ++ [rows]).flatten ++ []=ps.flatten ++ rows:=by simp
 refine ⟨?_,?_,?_,List.Pairwise.nil,fun r hr=>absurd hr (by simp),by simp,by rw [List.length_append,h.psl];rfl,by have:=h.few;have:=h.all;simp only [List.length_nil];omega⟩
 ·rw [e];exact h.num
 ·rw [e];exact h.len
 ·intro p hp
  rcases List.mem_append.mp hp with hp|hp
  ·exact h.ord p hp
  ·rw [List.mem_singleton.mp hp];exact h.cur
theorem St.add (h : St ps rows n i key k) (hk : key≤7) : St ps (rows ++ [mkR key n]) (n + 1) i key (k + 1):=by
 have e : ps.flatten ++ (rows ++ [mkR key n])=(ps.flatten ++ rows) ++ [mkR key n]:=by rw [List.append_assoc]
 refine ⟨?_,?_,h.ord,?_,?_,by have:=h.few;rw [List.length_append,List.length_singleton];omega,h.psl,by have:=h.all;rw [List.length_append,List.length_singleton];omega⟩
 ·rw [e]
  intro j hj
  by_cases h1 : j < (ps.flatten ++ rows).length
  ·rw [List.getElem_append_left h1]
   exact h.num j h1
  ·have h2 : j=n:=by rw [List.length_append,List.length_singleton,h.len] at hj;rw [h.len] at h1;omega
   subst h2
   refine ⟨(key : Int),by omega,by omega,?_⟩
   rw [List.getElem_append_right (by rw [h.len];exact Nat.le_refl _)]
   simp
 ·rw [e,List.length_append,List.length_singleton,h.len]
 ·refine List.pairwise_append.mpr ⟨h.cur,List.pairwise_singleton _ _,fun a ha b hb=>?_⟩
  rw [List.mem_singleton.mp hb]
  exact h.top a ha
 ·intro r hr
  rcases List.mem_append.mp hr with hr|hr
  ·exact h.top r hr
  ·rw [List.mem_singleton.mp hr]
   show (key : Int)≤key
   omega
end
theorem rdB_lt (l : List (List Int)) (i : Nat) (h : i < l.length) : rd_L10 l i=l[i]:=by unfold rd_L10;simp [List.getD,h]
theorem look (a : List (List XV)) (n : Nat) (ha : ∀ j (h : j < a.length),∃ q m : Int,a[j]=mkR q m∧∀ (h0 : 0 < j) (q' m' : Int),a[j - 1]=mkR q' m'→q' < q ∨ (q'=q∧m' < m)) (hn : a.length=n) (h8 : n≤100000) : ∀ (d j : Nat),j + d=a.length→Ev (fun k=>thresherlaw14_MergeStable.l3 k true n a j) true
 | 0,j,hj=>by
  refine Ev.succ ?_
  simp only [thresherlaw14_MergeStable.l3]
  refine Ev.neg (by omega) (Ev.pos trivial ((Ev.now _).eq ?_))
  rw [hn]
  simp
 | d + 1,j,hj=>by
  have h : j < a.length:=by omega
  obtain ⟨q,m,e,hq⟩:=ha j h
  have next : Ev (fun k=>thresherlaw14_MergeStable.j6 k true n a j false) true:=by
   refine Ev.succ ?_
   simp only [thresherlaw14_MergeStable.j6]
   rw [show wrap64 ((j : Int) + 1)=((j + 1 : Nat) : Int) by rw [w64 (by omega) (by omega)];omega]
   exact Ev.neg (by simp) (look a n ha hn h8 d (j + 1) (by omega))
  refine Ev.succ ?_
  simp only [thresherlaw14_MergeStable.l3]
  rw [rdR_lt a j h,e]
  refine Ev.pos (by omega) (Ev.pos (by omega) (Ev.pos rfl ?_))
  by_cases h0 : 0 < j
  ·obtain ⟨q',m',e',_⟩:=ha (j - 1) (by omega)
   have hlt:=hq h0 q' m' e'
   rw [show wrap64 ((j : Int) - 1)=((j - 1 : Nat) : Int) by rw [w64 (by omega) (by omega)];omega,rdR_lt a (j - 1) (by omega),e']
   refine Ev.pos (by omega) (Ev.pos (by omega) (Ev.pos (by omega) (Ev.pos (by simp [mkR]) (Ev.pos (by simp [mkR]) ?_))))
   refine Ev.neg (show ¬ q' > q by omega) ?_
   by_cases hqq : q'=q
   ·refine Ev.pos hqq (Ev.pos (by simp [mkR]) (Ev.pos (by simp [mkR]) ?_))
    have : decide (m' ≥ m)=false:=decide_eq_false (by omega)
    show Ev (fun k=>thresherlaw14_MergeStable.j6 k true n a j (decide (m' ≥ m))) true
    rw [this]
    exact next
   ·exact Ev.neg hqq next
  ·exact Ev.neg (by omega) next
theorem rows_mk {ps : List (List (List XV))} {n i : Nat} (h : St ps [] n i 0 0) (hi : i≤8) : (∀ p ∈ ps,∀ r ∈ p,Full [1,1] 1 r)∧(∀ p ∈ ps,InOrd [1,1] 1 p)∧ps.flatten.length=n∧n≤768∧∀ j (hj : j < ps.flatten.length),∃ q : Int,0≤q∧q≤7∧ps.flatten[j]=mkR q j:=by
 have hlen : ps.flatten.length=n:=by have:=h.len;simpa using this
 have hall:=h.all
 simp only [List.length_nil] at hall
 have hnum : ∀ j (hj : j < ps.flatten.length),∃ q : Int,0≤q∧q≤7∧ps.flatten[j]=mkR q j:=by
  intro j hj
  obtain ⟨q,h1,h2,h3⟩:=h.num j (by rw [List.append_nil];exact hj)
  refine ⟨q,h1,h2,?_⟩
  rw [← h3]
  simp
 have hmem : ∀ p ∈ ps,∀ r ∈ p,∃ q m : Int,0≤q∧q≤7∧0≤m∧m≤768∧r=mkR q m:=by
  intro p hp r hr
  obtain ⟨j,hj,e⟩:=List.getElem_of_mem (List.mem_flatten.mpr ⟨p,hp,hr⟩)
  obtain ⟨q,h1,h2,h3⟩:=hnum j hj
  exact ⟨q,j,h1,h2,by omega,by omega,by rw [← e,h3]⟩
 refine ⟨fun p hp r hr=>?_,fun p hp=>?_,hlen,by omega,hnum⟩
 ·obtain ⟨q,m,h1,h2,h3,h4,rfl⟩:=hmem p hp r hr
  exact full_mkR ⟨h1,h2⟩ ⟨h3,by omega⟩
 ·refine List.Pairwise.imp_of_mem (fun {a b} ha hb hab=>?_) (h.ord p hp)
  obtain ⟨q,m,_,_,_,_,rfl⟩:=hmem p hp a ha
  obtain ⟨q',m',_,_,_,_,rfl⟩:=hmem p hp b hb
  rw [cmp_mkR]
  have : q≤q':=hab
  unfold sgn
  split
  ·omega
  ·split <;> omega
theorem the_end {ps : List (List (List XV))} {n i : Nat} (h : St ps [] n i 0 0) (hi : i≤8) : Ev (fun k=>(merge_Rows.f k [1,1] 1 1 4 ps).bind fun a=>thresherlaw14_MergeStable.l3 k true n a 0) true:=by
 obtain ⟨hF,hO,hlen,hn,hnum⟩:=rows_mk h hi
 obtain ⟨out,o1,o2,o3⟩:=merge_nums [1,1] 1 ps hF hO
 have hsort:=mergeP_spec [1,1] 1 ps hF hO
 have hev:=merge_ev [1,1] 1 ps 1 4 (by simp) (by rw [h.psl];omega) (by omega) hF hO
 rw [← hsort,o3] at hev
 have hol : out.length=n:=by rw [o1.length_eq,List.length_range,hlen]
 have ho : ∀ j (hj : j < out.length),out[j] < ps.flatten.length:=fun j hj=>List.mem_range.mp (o1.mem_iff.mp (List.getElem_mem hj))
 refine Ev.bind hev (look _ n (fun j hj=>?_) (by rw [List.length_map];exact hol) (by omega) (out.map fun i=>rdR ps.flatten (i : Nat)).length 0 (by omega))
 have hj' : j < out.length:=by rw [List.length_map] at hj;exact hj
 obtain ⟨q,h1,h2,h3⟩:=hnum out[j] (ho j hj')
 refine ⟨q,(out[j] : Nat),by rw [List.getElem_map,show rdR ps.flatten (out[j] : Nat)=_ from rdR_lt _ _ (ho j hj'),h3],fun h0 q' m' e'=>?_⟩
 have hj1 : j - 1 < out.length:=by omega
 obtain ⟨q1,h4,h5,h6⟩:=hnum out[j - 1] (ho _ hj1)
 rw [List.getElem_map,show rdR ps.flatten (out[j - 1] : Nat)=_ from rdR_lt _ _ (ho _ hj1),h6] at e'
 have eq : q1=q'∧((out[j - 1] : Nat) : Int)=m':=by
  unfold mkR at e'
  simp only [List.cons.injEq,S31.mk.injEq,and_true] at e'
  exact ⟨e'.1,e'.2⟩
 obtain ⟨rfl,rfl⟩:=eq
 have hp:=pw_le o2 (i:=j - 1) (j:=j) (by omega) hj'
 unfold RSn CFn at hp
 rw [show rdR ps.flatten (out[j] : Nat)=_ from rdR_lt _ _ (ho j hj'),show rdR ps.flatten (out[j - 1] : Nat)=_ from rdR_lt _ _ (ho _ hj1),h3,h6,cmp_mkR] at hp
 unfold sgn at hp
 split at hp
 ·left;omega
 ·split at hp
  ·omega
  ·rcases hp with hp|hp
   ·omega
   ·right;omega
section
variable (l : List (List Int))
theorem bytes_loop (ps : List (List (List XV))) (i key : Nat) (hi : i < l.length) (hi8 : i < 8) (hk : key < 8)
  (hnext : ∀ rows n,St ps rows n i (key + 1) 0→Ev (fun k=>thresherlaw14_MergeStable.l1 k l true ps n i rows ((key + 1 : Nat) : Int) [1,1] 1 1 4) true) :
  ∀ (d x : Nat) (rows : List (List XV)) (n : Nat),x + d=min l[i].length 12→St ps rows n i key x→Ev (fun k=>thresherlaw14_MergeStable.l2 k l true ps n i rows key x [1,1] 1 1 4) true
 | 0,x,rows,n,hx,h=>by
  have fin : Ev (fun k=>thresherlaw14_MergeStable.j4 k l true ps n i rows key x false [1,1] 1 1 4) true:=by
   refine Ev.succ ?_
   simp only [thresherlaw14_MergeStable.j4]
   rw [show wrap64 ((key : Int) + 1)=((key + 1 : Nat) : Int) by rw [w64 (by omega) (by omega)];omega]
   exact Ev.neg (by simp) (hnext rows n (h.keyed (by omega)))
  refine Ev.succ ?_
  simp only [thresherlaw14_MergeStable.l2]
  rw [rdB_lt l i hi]
  refine Ev.pos (by omega) (Ev.pos (by omega) ?_)
  by_cases h1 : (x : Int) < (l[i].length : Int)
  ·refine Ev.pos h1 ?_
   rw [decide_eq_false (show ¬ ((x : Int) < 12) by omega)]
   exact fin
  ·exact Ev.neg h1 fin
 | d + 1,x,rows,n,hx,h=>by
  have hxl : x < l[i].length:=by omega
  have hlen:=h.few
  have hall:=h.all
  refine Ev.succ ?_
  simp only [thresherlaw14_MergeStable.l2]
  rw [rdB_lt l i hi]
  refine Ev.pos (by omega) (Ev.pos (by omega) (Ev.pos (by omega) ?_))
  rw [decide_eq_true (show ((x : Int) < 12) by omega)]
  refine Ev.succ ?_
  simp only [thresherlaw14_MergeStable.j4]
  rw [rdB_lt l i hi,show wrap64 ((x : Int) + 1)=((x + 1 : Nat) : Int) by rw [w64 (by omega) (by omega)];omega,show wrap64 ((n : Int) + 1)=((n + 1 : Nat) : Int) by rw [w64 (by omega) (by omega)];omega]
  refine Ev.pos trivial (Ev.pos (by omega) (Ev.pos (by omega) (Ev.pos (by omega) (Ev.pos (by omega) ?_))))
  by_cases hb : wrap64 (Go.bits .and .u8 (rd l[i] (x : Int)) 7)=(key : Int)
  ·exact Ev.pos hb (Ev.pos (by omega) (bytes_loop ps i key hi hi8 hk hnext d (x + 1) _ (n + 1) (by omega) (h.add (by omega))))
  ·exact Ev.neg hb (bytes_loop ps i key hi hi8 hk hnext d (x + 1) rows n (by omega) h.skip)
theorem keys_loop (ps : List (List (List XV))) (i : Nat) (hi : i < l.length) (hi8 : i < 8) (hps : ps.length=i)
  (hnext : ∀ rows n,St (ps ++ [rows]) [] n (i + 1) 0 0→Ev (fun k=>thresherlaw14_MergeStable.l0 k l true (ps ++ [rows]) n ((i + 1 : Nat) : Int) [1,1] 1 1 4) true) :
  ∀ (d key : Nat) (rows : List (List XV)) (n : Nat),key + d=8→St ps rows n i key 0→Ev (fun k=>thresherlaw14_MergeStable.l1 k l true ps n i rows key [1,1] 1 1 4) true
 | 0,key,rows,n,hk,h=>by
  obtain rfl : key=8:=by omega
  refine Ev.succ ?_
  simp only [thresherlaw14_MergeStable.l1]
  rw [show wrap64 ((i : Int) + 1)=((i + 1 : Nat) : Int) by rw [w64 (by omega) (by omega)];omega]
  exact Ev.neg (by omega) (Ev.pos (by omega) (hnext rows n h.part))
 | d + 1,key,rows,n,hk,h=>by
  refine Ev.succ ?_
  simp only [thresherlaw14_MergeStable.l1]
  refine Ev.pos (by omega) ?_
  exact bytes_loop l ps i key hi hi8 (by omega) (fun rows n h2=>keys_loop ps i hi hi8 hps hnext d (key + 1) rows n (by omega) h2) (min l[i].length 12) 0 rows n (by omega) h
theorem parts_loop' : ∀ (d i : Nat) (ps : List (List (List XV))) (n : Nat),i + d=min l.length 8→St ps [] n i 0 0→Ev (fun k=>thresherlaw14_MergeStable.l0 k l true ps n i [1,1] 1 1 4) true
 | 0,i,ps,n,hi,h=>by
  have fin : Ev (fun k=>thresherlaw14_MergeStable.j1 k l true ps n i false [1,1] 1 1 4) true:=by
   refine Ev.succ ?_
   simp only [thresherlaw14_MergeStable.j1]
   exact Ev.neg (by simp) (the_end h (by omega))
  refine Ev.succ ?_
  simp only [thresherlaw14_MergeStable.l0]
  by_cases h1 : (i : Int) < (l.length : Int)
  ·refine Ev.pos h1 ?_
   rw [decide_eq_false (show ¬ ((i : Int) < 8) by omega)]
   exact fin
  ·exact Ev.neg h1 fin
 | d + 1,i,ps,n,hi,h=>by
  refine Ev.succ ?_
  simp only [thresherlaw14_MergeStable.l0]
  refine Ev.pos (by omega) ?_
  rw [decide_eq_true (show ((i : Int) < 8) by omega)]
  refine Ev.succ ?_
  simp only [thresherlaw14_MergeStable.j1]
  refine Ev.pos trivial ?_
  exact keys_loop l ps i (by omega) (by omega) h.psl (fun rows n h2=>parts_loop' d (i + 1) (ps ++ [rows]) n (by omega) h2) 8 0 [] n (by omega) h
end
theorem MergeStable : thresherlaw14_MergeStable.PureG:=by
 intro l ⟨hl,hl2⟩
 apply Ev.rounds
 simp only [thresherlaw14_MergeStable.f]
 refine Ev.bind (Ev.of (r:=true) thresherlaw14_shown.mono (k:=12) (by kernel_rfl)) ?_
 exact parts_loop' l (min l.length 8) 0 [] 0 (by omega) ⟨fun j h=>absurd h (by simp),rfl,fun p hp=>absurd hp (by simp),List.Pairwise.nil,fun r hr=>absurd hr (by simp),by simp,rfl,by simp⟩
end Go.Proofs.Ytfiandejapgkoaa.Pure

namespace Go.Proofs.Ytfiandejapgkoaa.mergeStable
open Go.ChangeShapes Go.WideShapes Go.ChangeAt Go.RowKit Go.Proofs.Ytfiandejapgkoaa.P Go.Proofs.YtfiandejapgkoaaW.PrintWords
set_option linter.unusedVariables false
set_option linter.unusedSimpArgs false
theorem own : ownKnob Try.prog.godebug=none:=by kernel_rfl
theorem laidOut : laidOutB Try.prog=true:=by kernel_rfl
set_option maxRecDepth 100000 in
theorem lifted (os : Os) (started : os.Started) (H : Type) (enc : TypeId × Value→H) :
  ReturnsInHanded {} Try.checked os 3 .any (Rows.mergeStableSpec.pre6 enc Try.prog Try.f3 Rows.mergeStableRow.domain false) (Rows.mergeStableSpec.post enc Try.prog Try.f3 false true false false):=by
 refine returnsInHanded_of_change_sized (C:=Try.checked) own started (by kernel_rfl) Try.func3
  (ChangeSpec.witness6 (enc:=enc) (C:=Try.checked) false ⟨#[],#[.slice none 0 0],[]⟩ 8 (by kernel_rfl) (by kernel_rfl) (by kernel_rfl) (by kernel_rfl)) ?_
 intro W base args ds gs before hval0 hW hcnd hsz0 _
 have hval : ∀ (j : Nat) t v,Try.f3.params[j]?=some t→args[j]?=some v→Value.okWide Try.prog W .any base t v:=hval0
 have hW':=hW
 obtain ⟨p,q,hA0,hV,rfl,hfz,hnd⟩:=hW
 have hA : DataW.TrodAll enc Try.prog W 0 (fun _=>true) true Try.f3.params.toList args.toList ds p:=hA0
 rw [Try.params3] at hA hval
 obtain ⟨v0,vs0,d0,ds0,p0,q0,hargs,rfl,rfl,h0,r0⟩:=trodAll_cons hA
 obtain ⟨rfl,rfl,rfl⟩:=trodAll_nil r0
 obtain rfl : args=#[v0]:=by cases args;simp_all
 obtain ⟨rfl,rfl⟩:=trodVars_none hV
 have lt0 : ∀ x ∈ p0,x.block < W.heap.size:=by obtain ⟨m,hm⟩:=h0;exact DataW.trod_lt m _ _ _ hm
 obtain ⟨x0,K0,g0⟩:=((opens_slice Try.underlying22 (by kernel_rfl) (opens_slice Try.underlying29 (by kernel_rfl) (opens_int Try.underlying5)))).arg h0
 obtain ⟨a0,len0,cap0,rfl⟩:=okWide_slice Try.underlying22 (hval 0 22 v0 rfl rfl)
 obtain ⟨A0,c0,e0,hl0,hr0⟩:=K0
 simp [Value.cells] at e0
 obtain ⟨rfl,rfl,rfl⟩:=e0
 obtain ⟨k,hk⟩:=Pure.MergeStable x0 g0
 have call : Calls Try.prog 3 #[.slice a0 x0.length cap0] W fun e W'=>e=.returned (.bool true)∧Below W.heap.size W W':=by
  refine (thresherlaw14_MergeStable.calls k _ _ _ true W hr0 hl0 hk).mono ?_
  rintro e w' ⟨rfl,hd⟩
  exact ⟨rfl,hd⟩
 refine call.mono fun e W' ⟨he,bel⟩=>?_
 subst he
 exact ⟨_,rfl,_,_,_,[],_,[],hW',trodAll_mk1 (shut_bool Try.underlying4 _),(trodAll_cons_mk (Below.trod laidOut (by kernel_rfl) (of_decide_eq_true (by kernel_rfl)) h0 bel lt0) trodAll_mk0),rfl,bel.frame _,fun h=>by cases h⟩
theorem over : Rows.mergeStableRow.holds Try.pinned (OpenSpec.ofChange Rows.mergeStableSpec) :=
 OpenClaim.holds_of_wide 3 Try.f3 rfl rfl rfl rfl rfl rfl rfl ⟨rfl,rfl,rfl,rfl,rfl⟩ rfl rfl rfl rfl rfl (by kernel_rfl) Try.func3 (by kernel_rfl)
  (of_decide_eq_true (by kernel_rfl)) (by unfold Func.isWrapper;first|(rw [if_pos (by decide +kernel)];kernel_rfl)|(rw [if_neg (by decide +kernel)];exact ⟨rfl,rfl⟩))
  (fun os started H enc _=>lifted os started H enc)
theorem proved : Rows.MergeStableSaid:=over
#print axioms proved
end Go.Proofs.Ytfiandejapgkoaa.mergeStable
namespace Go.Proofs.Ytfiandejapgkoaa
theorem mergeStable_holds : Rows.MergeStableSaid:=mergeStable.proved
end Go.Proofs.Ytfiandejapgkoaa

