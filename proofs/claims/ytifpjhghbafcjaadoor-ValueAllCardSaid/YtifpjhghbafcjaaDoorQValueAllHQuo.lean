/- Texts of ValueAll. Merged: HQuo. -/
import Derived.Test.YtifpjhghbafcjaaDoorQValueAllHBld
import Derived.Test.YtifpjhghbafcjaaDoorQValueAllHBase
/- value.quoted, by hand: a text between marks. -/
namespace Go.Proofs.YtifpjhghbafcjaaDoor.P
open Go.RowKit Go.Proofs.YtifpjhghbafcjaaDoorW.PrintWords Go.Proofs.YtifpjhghbafcjaaDoorW.PrintLast Go.Proofs.YtifpjhghbafcjaaDoorW.PrintMore
set_option linter.unusedVariables false
set_option linter.unusedSimpArgs false
def hexU (d : Nat) : UInt8:=UInt8.ofNat (if d < 10 then 48 + d else 87 + d)
def esc (c : UInt8) : Bool:=decide (c.toNat < 32) || decide (126 < c.toNat) || decide (c.toNat=34) || decide (c.toNat=92)
def quo1 (c : UInt8) : List UInt8:=if esc c=true then [92,hexU (c.toNat / 16),hexU (c.toNat % 16)] else [c]
def quoL (l : List UInt8) : List UInt8:=34 :: l.flatMap quo1 ++ [34]
theorem quo1_len (c : UInt8) : (quo1 c).length≤3:=by unfold quo1;split <;> simp
theorem quo_len : ∀ l : List UInt8,(l.flatMap quo1).length≤3 * l.length
 | []=>by simp
 | c :: l=>by
  have:=quo1_len c
  have:=quo_len l
  rw [List.flatMap_cons,List.length_append,List.length_cons]
  omega
theorem quo1_esc (c : UInt8) (h : esc c=true) : quo1 c=[92,hexU (c.toNat / 16),hexU (c.toNat % 16)]:=by unfold quo1;rw [if_pos h]
theorem quo1_plain (c : UInt8) (h : esc c=false) : quo1 c=[c]:=by unfold quo1;rw [if_neg (by simp [h])]
theorem hex_at (d : Nat) (h : d < 16) (p : d < (ByteArray.mk #[48,49,50,51,52,53,54,55,56,57,97,98,99,100,101,102]).size) : (ByteArray.mk #[48,49,50,51,52,53,54,55,56,57,97,98,99,100,101,102])[d]'p=hexU d:=by
 have : ∀ d : Fin 16,∀ p : d.val < (ByteArray.mk #[48,49,50,51,52,53,54,55,56,57,97,98,99,100,101,102]).size,(ByteArray.mk #[48,49,50,51,52,53,54,55,56,57,97,98,99,100,101,102])[d.val]'p=hexU d.val:=by decide
 exact this ⟨d,h⟩ p
theorem Bd.grow {B b : Nat} {v : Value} {bs : List Value} {w w' : World} (h : Bd B b v bs w) (he : ∀ k,k < w.heap.size→w'.heap[k]?=w.heap[k]?) : Bd B b v bs w':=by
 obtain ⟨p,hp,hb⟩:=h.blk
 exact ⟨h.hB,⟨p,hp,(he b (blk_lt hb)).trans hb⟩,⟨h.own.1,h.own.2.imp id (fun ⟨g,cap,cur,e,hg,hh,r⟩=>⟨g,cap,cur,e,hg,(he g (blk_lt hh)).trans hh,r⟩)⟩,h.ne⟩
theorem own_marked {w : World} {base : Nat} {e t : TypeId} {size n k m : Nat} {v : Value} {xs : List Value} {cs : Array Value} (h : w.ownsRow base e size v n xs) (hk : w.heap[k]?=some (.cells cs t (m,m + 1))) : some k≠v.ownBlock:=by
 rcases h.2 with ⟨rfl,_⟩|⟨g,cap,cur,rfl,_,hh,_⟩
 ·simp [Value.ownBlock]
 ·intro he
  have : k=g:=by simpa [Value.ownBlock] using he
  subst this
  rw [hk] at hh
  injection hh with hh
  injection hh with _ _ hf
  injection hf with _ hf
  omega
structure QS (w : World) (kb m : Nat) (cs : Array Value) (v : Value) (bs : List UInt8) (W : World) : Prop where
 bd : Bd w.heap.size w.heap.size v (Lib.byteCells bs) W
 blk : W.heap[kb]?=some (.cells cs 5 (m,m + 1))
 below : Below w.heap.size w W
 lt : w.heap.size < kb
theorem byteCells_snoc (l : List UInt8) (c : UInt8) : Lib.byteCells (l ++ [c])=Lib.byteCells l ++ [.int .u8 (c.toNat : Int)]:=by simp [Lib.byteCells]
theorem byteCells_length (l : List UInt8) : (Lib.byteCells l).length=l.length:=by simp [Lib.byteCells]
theorem qs_write {w W : World} {kb m : Nat} {cs : Array Value} {v : Value} {bs : List UInt8} (h : QS w kb m cs v bs W) (c : UInt8) (hl : bs.length≤1000) :
  Calls Tryd.prog 43 #[.pointer (some ⟨w.heap.size,0,none⟩),.int .u8 (c.toNat : Int)] W fun e W'=>e=.returned .nilIface∧∃ v',QS w kb m cs v' (bs ++ [c]) W':=by
 refine (write_any h.bd (c.toNat : Int) (by rw [byteCells_length];omega)).mono ?_
 rintro e W' ⟨rfl,v',hD,hK⟩
 refine ⟨rfl,v',by rw [byteCells_snoc];exact hD,?_,h.below.trans hK.below,h.lt⟩
 rw [hK.other kb (Array.getElem?_eq_some_iff.1 h.blk).1 (by have:=h.lt;omega) (own_marked h.bd.own h.blk)]
 exact h.blk
theorem qs_writei {w W : World} {kb m : Nat} {cs : Array Value} {v : Value} {bs : List UInt8} (h : QS w kb m cs v bs W) (c : UInt8) (x : Int) (hx : (c.toNat : Int)=x) (hl : bs.length≤1000) :
  Calls Tryd.prog 43 #[.pointer (some ⟨w.heap.size,0,none⟩),.int .u8 x] W fun e W'=>e=.returned .nilIface∧∃ v',QS w kb m cs v' (bs ++ [c]) W':=by
 subst hx
 exact qs_write h c hl
theorem quo_take (l : List UInt8) (j : Nat) (h : j < l.length) : (l.take (j + 1)).flatMap quo1=(l.take j).flatMap quo1 ++ quo1 l[j]:=by
 rw [List.take_succ_eq_append_getElem h,List.flatMap_append]
 simp
theorem bytesRow_at (s : ByteArray) (cap j : Nat) (h : j < s.data.toList.length) : (bytesRow s cap)[j]?=some (.int .u8 ((s.data.toList[j]).toNat : Int)):=by
 have h' : j < s.data.size:=by simpa using h
 unfold bytesRow
 rw [Array.getElem?_append_left (by simpa using h'),Array.getElem?_map,Array.getElem?_eq_getElem h']
 simp
set_option maxHeartbeats 20000000 in
set_option maxRecDepth 100000 in
theorem quoted_any (s : ByteArray) (w : World) (hs : s.size≤60) :
  Calls Tryd.prog 29 #[.string s] w fun e w'=>e=.returned (.string ⟨(quoL s.data.toList).toArray⟩)∧Below w.heap.size w w':=by
 have hu67:=Tryd.underlying67
 have hu65:=Tryd.underlying65
 have hln : s.data.toList.length=s.size:=by simp
 have h0 : Bd w.heap.size w.heap.size (.slice none 0 0) (Lib.byteCells []) (w.alloc (.cells #[.pointer none,.slice none 0 0] 67)) :=
  ⟨Nat.le_refl _,⟨_,.inl rfl,blk_new w _⟩,⟨rfl,.inl ⟨rfl,rfl⟩⟩,by simp [Value.ownBlock]⟩
 have H0:=Aside0.mk h0
 have HS:=Aside0.mk hs
 have HLN:=Aside0.mk hln
 clear h0 hs hln
 have hcv : ∀ W : World,(convert 9 65 (.string s)).run Tryd.prog W=.ok (.slice (some ⟨W.heap.size,0,none⟩) s.size (grownCap W s.size 0 5))
   (W.drew.alloc (.cells (bytesRow s (grownCap W s.size 0 5)) 5 ((bytesRow s (grownCap W s.size 0 5)).size,(bytesRow s (grownCap W s.size 0 5)).size + 1))):=fun W=>run_bytes_of_string W 9 65 5 s Tryd.underlying9 Tryd.underlying65 Tryd.underlying5
 go_enter Tryd.func29,Tryd.ntmps29
 go_wp2_with (go_at_call 43;refine (write_any H0.out 34 (by simp [Lib.byteCells])).mono ?_)
 rintro e w1 ⟨rfl,v1,hD1,hK1⟩
 have HD1:=Aside0.mk hD1
 have HK1:=Aside0.mk hK1
 clear hD1 hK1 H0
 go_wp2
 obtain ⟨kb,hkb⟩ : ∃ kb,kb=w1.heap.size:=⟨_,rfl⟩
 have hlt0 : w.heap.size < kb:=by have:=HK1.out.size;simp at this;omega
 rw [← hkb]
 have HKB:=Aside0.mk hkb
 clear hkb
 go_loopg [5,10] s.size (fun kq v5 v10 w'=>∃ (j : Nat) (v : Value) (cs : Array Value) (m : Nat),v10=.int .i64 j∧Aside0 (j + kq=s.size)∧Aside0 (QS w kb m cs v (34 :: (s.data.toList.take j).flatMap quo1) w')∧Aside0 (∀ q (hq : q < s.data.toList.length),cs[q]?=some (.int .u8 ((s.data.toList[q]).toNat : Int))))
 case atStart =>
  refine ⟨0,v1,bytesRow s (grownCap w1 s.size 0 5),(bytesRow s (grownCap w1 s.size 0 5)).size,rfl,⟨by omega⟩,⟨⟨?_,?_,?_,hlt0⟩⟩,⟨fun q hq=>bytesRow_at s _ q hq⟩⟩
  ·refine HD1.out.grow fun k hk=>?_
   exact Below.heap_alloc w1 _ k hk
  ·rw [HKB.out]
   exact blk_new w1.drew _
  ·exact (((Below.refl _ w).alloc (Nat.le_refl _) _).trans HK1.out.below).drew.alloc (by have:=HKB.out;show w.heap.size≤w1.heap.size;omega) _
 case round =>
  obtain ⟨j,v,cs,mm,rfl,HJ,HQ,HC⟩:=hrel
  by_cases hlt : j < s.size
  ·obtain ⟨c,hc⟩ : ∃ c,c=s.data.toList[j]'(by have:=HLN.out;omega):=⟨_,rfl⟩
   have hx : wr.cell? ⟨kb,j,none⟩=some (.int .u8 (c.toNat : Int)):=by
    have h1:=cell_of_row wr kb j cs _ _ HQ.out.blk
    rw [h1,hc]
    exact HC.out j _
   have hd : decide ((j : Int) < (s.size : Int))=true:=by simpa using hlt
   have HCC:=Aside0.mk hc
   clear hc
   have hr : c.toNat < 256:=c.toNat_lt
   obtain ⟨m,hm⟩ : ∃ m,m=c.toNat:=⟨_,rfl⟩
   rw [← hm] at hx hr
   have HM:=Aside0.mk hm
   clear hm
   have hlen : (34 :: (s.data.toList.take j).flatMap quo1).length≤200:=by
    have h1:=quo_len (s.data.toList.take j)
    have h2:=HS.out
    rw [List.length_take] at h1
    rw [List.length_cons]
    omega
   have HL:=Aside0.mk hlen
   clear hlen
   obtain ⟨m1,hm1⟩ : ∃ m,m + 1=gk:=⟨gk - 1,by have:=HJ.out;omega⟩
   have HM1:=Aside0.mk hm1
   clear hm1
   by_cases h1 : m < 32
   ·have d1 : decide ((m : Int) < 32)=true:=decide_eq_true (by omega)
    go_wp2_with (go_at_call 43;fail)
    refine (qs_writei HQ.out 92 92 (by decide) (by have:=HL.out;omega)).mono ?_
    rintro e w3 ⟨rfl,v3,hQ3⟩
    have HQ3:=Aside0.mk hQ3
    clear hQ3
    go_wp2_with (go_at_call 43;fail)
    refine (qs_write HQ3.out _ (by have:=HL.out;rw [List.length_append];simp at this ⊢;omega)).mono ?_
    rintro e w4 ⟨rfl,v4,hQ4⟩
    have HQ4:=Aside0.mk hQ4
    clear hQ4
    go_wp2_with (go_at_call 43;fail)
    refine (qs_write HQ4.out _ (by have:=HL.out;rw [List.length_append,List.length_append];simp at this ⊢;omega)).mono ?_
    rintro e w5 ⟨rfl,v5,hQ5⟩
    have HQ5:=Aside0.mk hQ5
    clear hQ5
    go_wp2
    go_roundg m1
    case measure=>have:=HM1.out;omega
    case rel =>
     refine ⟨j + 1,v5,cs,mm,by have:=HJ.out;have:=HS.out;rw [w64 (by omega) (by omega)];rfl,⟨by have:=HJ.out;have:=HM1.out;omega⟩,⟨?_⟩,HC⟩
     have h:=HQ5.out
     rw [quo_take _ _ (by have:=HLN.out;omega),← HCC.out,quo1_esc c (by have:=HM.out;simp only [esc,Bool.or_eq_true,decide_eq_true_eq];omega)]
     simpa [hex_at _ (show c.toNat / 16 < 16 by have:=c.toNat_lt;omega),hex_at _ (show c.toNat % 16 < 16 by omega),HM.out] using h
   by_cases h2 : 126 < m
   ·have d1 : decide ((m : Int) < 32)=false:=decide_eq_false (by omega)
    have d2 : decide (126 < (m : Int))=true:=decide_eq_true (by omega)
    go_wp2_with (go_at_call 43;fail)
    refine (qs_writei HQ.out 92 92 (by decide) (by have:=HL.out;omega)).mono ?_
    rintro e w3 ⟨rfl,v3,hQ3⟩
    have HQ3:=Aside0.mk hQ3
    clear hQ3
    go_wp2_with (go_at_call 43;fail)
    refine (qs_write HQ3.out _ (by have:=HL.out;rw [List.length_append];simp at this ⊢;omega)).mono ?_
    rintro e w4 ⟨rfl,v4,hQ4⟩
    have HQ4:=Aside0.mk hQ4
    clear hQ4
    go_wp2_with (go_at_call 43;fail)
    refine (qs_write HQ4.out _ (by have:=HL.out;rw [List.length_append,List.length_append];simp at this ⊢;omega)).mono ?_
    rintro e w5 ⟨rfl,v5,hQ5⟩
    have HQ5:=Aside0.mk hQ5
    clear hQ5
    go_wp2
    go_roundg m1
    case measure=>have:=HM1.out;omega
    case rel =>
     refine ⟨j + 1,v5,cs,mm,by have:=HJ.out;have:=HS.out;rw [w64 (by omega) (by omega)];rfl,⟨by have:=HJ.out;have:=HM1.out;omega⟩,⟨?_⟩,HC⟩
     have h:=HQ5.out
     rw [quo_take _ _ (by have:=HLN.out;omega),← HCC.out,quo1_esc c (by have:=HM.out;simp only [esc,Bool.or_eq_true,decide_eq_true_eq];omega)]
     simpa [hex_at _ (show c.toNat / 16 < 16 by have:=c.toNat_lt;omega),hex_at _ (show c.toNat % 16 < 16 by omega),HM.out] using h
   by_cases h3 : m=34
   ·subst h3
    go_wp2_with (go_at_call 43;fail)
    refine (qs_writei HQ.out 92 92 (by decide) (by have:=HL.out;omega)).mono ?_
    rintro e w3 ⟨rfl,v3,hQ3⟩
    have HQ3:=Aside0.mk hQ3
    clear hQ3
    go_wp2_with (go_at_call 43;fail)
    refine (qs_write HQ3.out _ (by have:=HL.out;rw [List.length_append];simp at this ⊢;omega)).mono ?_
    rintro e w4 ⟨rfl,v4,hQ4⟩
    have HQ4:=Aside0.mk hQ4
    clear hQ4
    go_wp2_with (go_at_call 43;fail)
    refine (qs_write HQ4.out _ (by have:=HL.out;rw [List.length_append,List.length_append];simp at this ⊢;omega)).mono ?_
    rintro e w5 ⟨rfl,v5,hQ5⟩
    have HQ5:=Aside0.mk hQ5
    clear hQ5
    go_wp2
    go_roundg m1
    case measure=>have:=HM1.out;omega
    case rel =>
     refine ⟨j + 1,v5,cs,mm,by have:=HJ.out;have:=HS.out;rw [w64 (by omega) (by omega)];rfl,⟨by have:=HJ.out;have:=HM1.out;omega⟩,⟨?_⟩,HC⟩
     have h:=HQ5.out
     rw [quo_take _ _ (by have:=HLN.out;omega),← HCC.out,quo1_esc c (by have:=HM.out;simp only [esc,Bool.or_eq_true,decide_eq_true_eq];omega)]
     rw [show c.toNat=34 from HM.out.symm]
     simpa [hex_at 2 (by decide),hex_at 2 (by decide)] using h
   by_cases h4 : m=92
   ·subst h4
    go_wp2_with (go_at_call 43;fail)
    refine (qs_writei HQ.out 92 92 (by decide) (by have:=HL.out;omega)).mono ?_
    rintro e w3 ⟨rfl,v3,hQ3⟩
    have HQ3:=Aside0.mk hQ3
    clear hQ3
    go_wp2_with (go_at_call 43;fail)
    refine (qs_write HQ3.out _ (by have:=HL.out;rw [List.length_append];simp at this ⊢;omega)).mono ?_
    rintro e w4 ⟨rfl,v4,hQ4⟩
    have HQ4:=Aside0.mk hQ4
    clear hQ4
    go_wp2_with (go_at_call 43;fail)
    refine (qs_write HQ4.out _ (by have:=HL.out;rw [List.length_append,List.length_append];simp at this ⊢;omega)).mono ?_
    rintro e w5 ⟨rfl,v5,hQ5⟩
    have HQ5:=Aside0.mk hQ5
    clear hQ5
    go_wp2
    go_roundg m1
    case measure=>have:=HM1.out;omega
    case rel =>
     refine ⟨j + 1,v5,cs,mm,by have:=HJ.out;have:=HS.out;rw [w64 (by omega) (by omega)];rfl,⟨by have:=HJ.out;have:=HM1.out;omega⟩,⟨?_⟩,HC⟩
     have h:=HQ5.out
     rw [quo_take _ _ (by have:=HLN.out;omega),← HCC.out,quo1_esc c (by have:=HM.out;simp only [esc,Bool.or_eq_true,decide_eq_true_eq];omega)]
     rw [show c.toNat=92 from HM.out.symm]
     simpa [hex_at 5 (by decide),hex_at 12 (by decide)] using h
   have HMM : (c.toNat : Int)=(m : Int):=by rw [HM.out]
   have d1 : decide ((m : Int) < 32)=false:=decide_eq_false (by omega)
   have d2 : decide (126 < (m : Int))=false:=decide_eq_false (by omega)
   have d3 : ((m : Int) == 34)=false:=by rw [beq_eq_false_iff_ne];omega
   have d4 : ((m : Int) == 92)=false:=by rw [beq_eq_false_iff_ne];omega
   go_wp2_with (go_at_call 43;fail)
   refine (qs_writei HQ.out c _ HMM (by have:=HL.out;omega)).mono ?_
   rintro e w3 ⟨rfl,v3,hQ3⟩
   have HQ3:=Aside0.mk hQ3
   clear hQ3
   go_wp2
   go_roundg m1
   case measure=>have:=HM1.out;omega
   case rel =>
    refine ⟨j + 1,v3,cs,mm,by have:=HJ.out;have:=HS.out;rw [w64 (by omega) (by omega)];rfl,⟨by have:=HJ.out;have:=HM1.out;omega⟩,⟨?_⟩,HC⟩
    have h:=HQ3.out
    rw [quo_take _ _ (by have:=HLN.out;omega),← HCC.out,quo1_plain c (by have:=HM.out;simp only [esc,Bool.or_eq_false_iff,decide_eq_false_iff_not];omega)]
    simpa using h
  ·go_wp2_with (go_at_call 43;fail)
   have hje : j=s.size:=by have:=HJ.out;omega
   refine (qs_writei HQ.out 34 34 (by decide) (by have h1:=quo_len (s.data.toList.take j);have h2:=HS.out;rw [List.length_take] at h1;rw [List.length_cons];omega)).mono ?_
   rintro e w3 ⟨rfl,v3,hQ3⟩
   have HQ3:=Aside0.mk hQ3
   have HJE:=Aside0.mk hje
   clear hQ3 hje
   go_wp2_with (go_at_call 44;fail)
   refine (Tryd.Builder_String_any w.heap.size w.heap.size _ _ HQ3.out.bd.isB (by have:=HQ3.out.below.size;omega)).mono ?_
   rintro e w4 ⟨rfl,hb4⟩
   have HB4:=Aside0.mk hb4
   clear hb4
   go_wp2
   go_ret
   refine ⟨?_,HQ3.out.below.trans HB4.out⟩
   rw [HJE.out,List.take_of_length_le (by have:=HLN.out;omega)]
   rfl
end Go.Proofs.YtifpjhghbafcjaaDoor.P

