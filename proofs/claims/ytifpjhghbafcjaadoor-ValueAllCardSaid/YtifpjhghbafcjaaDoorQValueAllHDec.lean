/- Texts of ValueAll. Merged: HDec. -/
import Derived.Test.YtifpjhghbafcjaaDoorQValueAllHQuo
import Derived.Test.YtifpjhghbafcjaaDoorQValueAllHHex
/- value.text, by hand: what stands between marks. -/
namespace Go.Proofs.YtifpjhghbafcjaaDoor.P
open Go.RowKit Go.Proofs.YtifpjhghbafcjaaDoorW.PrintWords Go.Proofs.YtifpjhghbafcjaaDoorW.PrintLast Go.Proofs.YtifpjhghbafcjaaDoorW.PrintMore
set_option linter.unusedVariables false
set_option linter.unusedSimpArgs false
def HasErr (w : World) (g : Nat) : Prop:=g < w.heap.size∧∃ ev,w.cell? ⟨g,0,none⟩=some ev∧(ev=.nilIface ∨ ∃ te pe,ev=.iface te pe)
theorem HasErr.on {w w1 : World} {g B : Nat} (h : HasErr w g) (hg : g < B) (hb : Below B w w1) : HasErr w1 g:=by
 obtain ⟨h1,ev,h2,h3⟩:=h
 refine ⟨by have:=hb.size;omega,ev,?_,h3⟩
 rw [hb.cell (p:=⟨g,0,none⟩) hg]
 exact h2
theorem bytes_below (w : World) (t : ByteArray) : Below w.heap.size w (Lib.bytesWorld w 5 t):=by
 first
 | exact Lib.bytesWorld_below w 5 t
 | exact (Below.refl _ _).drew.alloc (Nat.le_refl _) _
 | exact ((Below.refl _ _).alloc (Nat.le_refl _) _).drew
set_option maxHeartbeats 4000000 in
theorem pub16 (t : ByteArray) (h2 : t.size=2) (w : World) (hE : HasErr w 2) :
  Calls Tryd.prog 31 #[.string t,.int .i64 16,.int .i64 8] w fun e w'=>(match hexr 0 t.data.toList with|some n=>e=.returned (.tuple #[.int .u64 (n : Int),.nilIface])|none=>∃ N,e=.returned (.tuple #[.int .u64 0,.iface 81 (.pointer (some ⟨N,0,none⟩))]))∧Below w.heap.size w w':=by
 have hb:=bytes_below w t
 have HE:=Aside0.mk (hE.on hE.1 hb)
 have HB:=Aside0.mk hb
 clear hb hE
 have hp:=pu16_any t h2 w
 cases hr : hexr 0 t.data.toList with
 | some n =>
  rw [hr] at hp
  have HP:=Aside0.mk hp
  clear hp
  go_enter Tryd.func31,Tryd.ntmps31
  go_wp2_with (go_at_call 47;fail)
  refine HP.out.mono ?_
  rintro e w1 ⟨rfl,rfl⟩
  simp only [hexE]
  go_wp2
  go_ret2
  exact ⟨rfl,HB.out⟩
 | none =>
  rw [hr] at hp
  have HP:=Aside0.mk hp
  clear hp
  go_enter Tryd.func31,Tryd.ntmps31
  go_wp2_with (go_at_call 47;fail)
  refine HP.out.mono ?_
  rintro e w1 ⟨rfl,rfl⟩
  simp only [hexE]
  obtain ⟨_,ev,hv,hev⟩:=HE.out
  go_wp2_with (go_at_call 46;fail)
  refine (Tryd.strconv_toError_syntax _ t 16 8 ev _ (by omega) hv hev).mono ?_
  rintro e w2 ⟨N,rfl,_,_,hb2⟩
  have HB2:=Aside0.mk hb2
  clear hb2
  go_wp2
  go_ret2
  exact ⟨⟨N,rfl⟩,HB.out.trans (HB2.out.mono HB.out.size)⟩
def dec (l : List UInt8) : Option (List UInt8) :=
 match l with
 | []=>some []
 | c :: r=>if c.toNat=92 then (match r with|a :: b :: r'=>(match hexr 0 [a,b] with|some n=>(dec r').map (UInt8.ofNat n :: ·)|none=>none)|[]=>none|[_]=>none) else (dec r).map (c :: ·)
termination_by l.length
decreasing_by all_goals simp_all <;> omega
def textL (s : List UInt8) : List UInt8 × Bool:=match dec (Lib.trimSuffix (Lib.trimPrefix s [34]) [34]) with|none=>([],false)|some x=>(x,Lib.hasPrefix s [34] && Lib.hasSuffix (Lib.trimPrefix s [34]) [34])
theorem dec_nil : dec []=some []:=by rw [dec]
theorem dec_plain (c : UInt8) (r : List UInt8) (h : ¬ c.toNat=92) : dec (c :: r)=(dec r).map (c :: ·):=by
 rcases r with _|⟨a,_|⟨b,r⟩⟩
 ·conv=>lhs;rw [dec]
  simp [h]
 ·conv=>lhs;rw [dec]
  simp [h]
 ·conv=>lhs;rw [dec]
  simp [h]
theorem dec_esc (c a b : UInt8) (n : Nat) (r : List UInt8) (h : c.toNat=92) (hn : hexr 0 [a,b]=some n) : dec (c :: a :: b :: r)=(dec r).map (UInt8.ofNat n :: ·):=by
 conv=>lhs;rw [dec]
 simp [h,hn]
theorem dec_bad (c a b : UInt8) (r : List UInt8) (h : c.toNat=92) (hn : hexr 0 [a,b]=none) : dec (c :: a :: b :: r)=none:=by
 conv=>lhs;rw [dec]
 simp [h,hn]
theorem dec_short (c : UInt8) (r : List UInt8) (h : c.toNat=92) (hn : r.length < 2) : dec (c :: r)=none:=by
 rcases r with _|⟨a,_|⟨b,r⟩⟩
 ·rw [dec];simp [h]
 ·rw [dec];simp [h]
 ·simp at hn;omega
structure TS (w : World) (v : Value) (bs : List UInt8) (W : World) : Prop where
 bd : Bd w.heap.size w.heap.size v (Lib.byteCells bs) W
 below : Below w.heap.size w W
theorem ts_write {w W : World} {v : Value} {bs : List UInt8} (h : TS w v bs W) (c : UInt8) (x : Int) (hx : (c.toNat : Int)=x) (hl : bs.length≤100000) :
  Calls Tryd.prog 43 #[.pointer (some ⟨w.heap.size,0,none⟩),.int .u8 x] W fun e W'=>e=.returned .nilIface∧∃ v',TS w v' (bs ++ [c]) W':=by
 subst hx
 refine (write_any h.bd (c.toNat : Int) (by rw [byteCells_length];omega)).mono ?_
 rintro e W' ⟨rfl,v',hD,hK⟩
 exact ⟨rfl,v',by rw [byteCells_snoc];exact hD,h.below.trans hK.below⟩
theorem arr_cut (l : List UInt8) (i j : Nat) : (⟨l.toArray⟩ : ByteArray).extract i j=⟨((l.take j).drop i).toArray⟩:=by
 apply ByteArray.ext
 rw [ByteArray.data_extract]
 apply Array.ext'
 simp [List.extract_eq_take_drop,List.drop_take]
theorem hexv_lt (c n : Nat) (h : hexv c=some n) : n < 16:=by
 unfold hexv at h
 split at h
 ·have:=Option.some.inj h;omega
 ·split at h
  ·have:=Option.some.inj h;omega
  ·cases h
theorem hexr_lt (a b : UInt8) (n : Nat) (h : hexr 0 [a,b]=some n) : n < 256:=by
 simp only [hexr] at h
 cases h1 : hexv a.toNat with
 | none=>rw [h1] at h;cases h
 | some x =>
  rw [h1] at h
  simp only [hexr] at h
  cases h2 : hexv b.toNat with
  | none=>rw [h2] at h;cases h
  | some y =>
   rw [h2] at h
   have:=hexv_lt _ _ h1
   have:=hexv_lt _ _ h2
   simp only [hexr] at h
   have:=Option.some.inj h
   omega
set_option maxHeartbeats 4000000 in
set_option maxRecDepth 100000 in
theorem text_any (s : ByteArray) (w : World) (hs : s.size≤1000) (hE : HasErr w 2) :
  Calls Tryd.prog 32 #[.string s] w fun e w'=>e=.returned (.tuple #[.string ⟨(textL s.data.toList).1.toArray⟩,.bool (textL s.data.toList).2])∧Below w.heap.size w w':=by
 have hu67:=Tryd.underlying67
 obtain ⟨res,hres⟩ : ∃ r,r=textL s.data.toList:=⟨_,rfl⟩
 rw [← hres]
 have h0 : TS w (.slice none 0 0) [] (w.alloc (.cells #[.pointer none,.slice none 0 0] 67)) :=
  ⟨⟨Nat.le_refl _,⟨_,.inl rfl,blk_new w _⟩,⟨rfl,.inl ⟨rfl,rfl⟩⟩,by simp [Value.ownBlock]⟩,(Below.refl _ w).alloc (Nat.le_refl _) _⟩
 have H0:=Aside0.mk h0
 have HS:=Aside0.mk hs
 have HE:=Aside0.mk hE
 clear h0 hs hE
 go_enter Tryd.func32,Tryd.ntmps32
 go_wp2_with (go_at_call 48;fail)
 refine (Tryd.strings_CutPrefix s _ _).mono ?_
 rintro e w1 ⟨rfl,rfl⟩
 go_wp2_with (go_at_call 49;fail)
 obtain ⟨p,hp⟩ : ∃ p,p=Lib.trimPrefix s.data.toList [34]:=⟨_,rfl⟩
 have hpl : p.length≤1000:=by
  have : s.data.toList.length=s.size:=by simp
  have:=HS.out
  rw [hp]
  unfold Lib.trimPrefix
  split
  ·rw [List.length_drop];omega
  ·omega
 have HT : Aside0 (res=match dec (Lib.trimSuffix p [34]) with|none=>([],false)|some x=>(x,Lib.hasPrefix s.data.toList [34] && Lib.hasSuffix p [34])):=⟨by rw [hp,hres];rfl⟩
 rw [← hp]
 refine (Tryd.strings_CutSuffix ⟨p.toArray⟩ _ _ (by show p.toArray.size≤_;simp;omega)).mono ?_
 rintro e w2 ⟨rfl,rfl⟩
 have ea : (⟨p.toArray⟩ : ByteArray).data.toList=p:=rfl
 have eb : (⟨#[34]⟩ : ByteArray).data.toList=[34]:=rfl
 rw [ea,eb]
 obtain ⟨q,hq⟩ : ∃ q,q=Lib.trimSuffix p [34]:=⟨_,rfl⟩
 have hql : q.length≤1000:=by
  rw [hq]
  unfold Lib.trimSuffix
  split
  ·rw [List.length_take];omega
  ·omega
 have HT2 : Aside0 (res=match dec q with|none=>([],false)|some x=>(x,Lib.hasPrefix s.data.toList [34] && Lib.hasSuffix p [34])):=⟨by rw [hq];exact HT.out⟩
 rw [← hq]
 have HQL:=Aside0.mk hql
 clear hq hp hpl HT ea eb hql
 obtain ⟨ok1,ho1⟩ : ∃ b : Bool,b=Lib.hasPrefix s.data.toList [34]:=⟨_,rfl⟩
 obtain ⟨ok2,ho2⟩ : ∃ b : Bool,b=Lib.hasSuffix p [34]:=⟨_,rfl⟩
 rw [← ho1,← ho2] at HT2 ⊢
 clear ho1 ho2 hres
 go_wp2
 go_loopg [4] q.length (fun kq v4 w'=>∃ (rest bs : List UInt8) (v : Value),v4=.string ⟨rest.toArray⟩∧Aside0 (rest.length=kq)∧Aside0 (res=match dec rest with|none=>([],false)|some x=>(bs ++ x,ok1 && ok2))∧Aside0 (TS w2 v bs w')∧Aside0 (bs.length + rest.length≤1000))
 case atStart=>exact ⟨q,[],.slice none 0 0,rfl,⟨rfl⟩,HT2,H0,⟨by have:=HQL.out;simpa using this⟩⟩
 case round =>
  clear H0 HT2 HQL
  obtain ⟨rest,bs,v,rfl,HL,HR,HT,HB⟩:=hrel
  rcases rest with _|⟨c,r⟩
  ·have he : (⟨([] : List UInt8).toArray⟩ : ByteArray)=⟨#[]⟩:=rfl
   rw [he]
   go_wp2_with (go_at_call 44;fail)
   refine (Tryd.Builder_String_any w2.heap.size w2.heap.size _ _ HT.out.bd.isB (by have:=HT.out.below.size;omega)).mono ?_
   rintro e w4 ⟨rfl,hb4⟩
   have HB4:=Aside0.mk hb4
   clear hb4
   have hres:=HR.out
   rw [dec_nil] at hres
   simp only [List.append_nil] at hres
   have HRS:=Aside0.mk hres
   clear hres HR
   cases ok1 <;> go_wp2 <;> go_ret2 <;> refine ⟨?_,HT.out.below.trans HB4.out⟩ <;> rw [HRS.out] <;> rfl
  ·obtain ⟨I,hI⟩ : ∃ I : ByteArray,I=⟨(c :: r).toArray⟩:=⟨_,rfl⟩
   have hsz : I.size=r.length + 1:=by rw [hI];show ((c :: r).toArray).size=_;simp
   have hem : I.toList.isEmpty=false:=by rw [hI,ByteArray.toList_eq];rfl
   obtain ⟨m,hm⟩ : ∃ m,m=c.toNat:=⟨_,rfl⟩
   have hx : ∀ h : 0 < I.size,((I[0]'h).toNat : Int)=(m : Int):=fun h=>by subst hI;rw [hm];rfl
   have HM:=Aside0.mk hm
   clear hm
   rw [← hI]
   have HI:=Aside0.mk hI
   clear hI
   by_cases hc : m=92
   ·subst hc
    by_cases hr : r.length < 2
    ·have hd : decide ((r.length : Int) + 1 < 3)=true:=decide_eq_true (by omega)
     have hres:=HR.out
     rw [dec_short c r HM.out.symm hr] at hres
     have HRS:=Aside0.mk hres
     clear hres HR hr
     go_wp2_with (go_at_call 31;fail)
     go_ret2
     refine ⟨?_,HT.out.below⟩
     rw [HRS.out]
     rfl
    ·obtain ⟨a,b,r',rfl⟩ : ∃ a b r',r=a :: b :: r':=by
      rcases r with _|⟨a,_|⟨b,r'⟩⟩
      ·simp at hr
      ·simp at hr
      ·exact ⟨a,b,r',rfl⟩
     have hd : decide (((a :: b :: r').length : Int) + 1 < 3)=false:=decide_eq_false (by omega)
     clear hr
     have eI : I.extract 1 3=⟨([a,b] : List UInt8).toArray⟩:=by rw [HI.out,arr_cut];rfl
     have HEI:=Aside0.mk eI
     clear eI
     go_wp2_with (go_at_call 31;fail)
     rw [HEI.out]
     refine (pub16 ⟨([a,b] : List UInt8).toArray⟩ rfl _ (HE.out.on HE.out.1 HT.out.below)).mono ?_
     rintro e w3 ⟨he,hb3⟩
     have e2 : (⟨([a,b] : List UInt8).toArray⟩ : ByteArray).data.toList=[a,b]:=rfl
     rw [e2] at he
     have hT3 : TS w2 v bs w3:=⟨HT.out.bd.grow fun k hk=>hb3.block k hk,HT.out.below.trans (hb3.mono HT.out.below.size)⟩
     have HT3:=Aside0.mk hT3
     clear hT3 hb3
     cases hn : hexr 0 [a,b] with
     | none =>
      rw [hn] at he
      obtain ⟨N,rfl⟩:=he
      have hres:=HR.out
      rw [dec_bad c a b r' HM.out.symm hn] at hres
      have HRS:=Aside0.mk hres
      clear hres HR hn
      go_wp2
      go_ret2
      refine ⟨?_,HT3.out.below⟩
      rw [HRS.out]
      rfl
     | some n =>
      rw [hn] at he
      subst he
      have hres:=HR.out
      rw [dec_esc c a b n r' HM.out.symm hn] at hres
      have HRS:=Aside0.mk hres
      have hn2:=hexr_lt a b n hn
      have hw : IntKind.u8.wrap (n : Int)=(n : Int):=by rw [IntKind.wrap_u8];omega
      have p2 : (2≤(r'.length : Int) + 1 + 1 + 1)=True:=eq_true (by omega)
      obtain ⟨J,hJ⟩ : ∃ J : ByteArray,J=⟨(b :: r').toArray⟩:=⟨_,rfl⟩
      have hJs : J.size=r'.length + 1:=by rw [hJ];show ((b :: r').toArray).size=_;simp
      have eJ : I.extract 2 (r'.length + 1 + 1 + 1)=J:=by rw [HI.out,arr_cut,hJ,List.take_of_length_le (by simp only [List.length_cons];omega)];rfl
      have HJ:=Aside0.mk hJ
      have HEJ:=Aside0.mk eJ
      clear hres HR hn hJ eJ
      go_wp2
      refine start_ (n:=6) (S:=fun w'=>True) (ds:=[]) #[false,false,false,false,false,false] (by kernel_rfl) rfl rfl trivial (fun hHeld=>?_)
      refine pure_ (i:=0) (N:=some 40) (v:=?_) (a':=?_) #[true,false,false,false,false,false] rfl rfl (by kernel_rfl) (fun _ _ _ h=>h) (Or.inl ⟨by rfl,?_⟩) ?_ ?_
      rotate_left;(intro w';go_simp;with_reducible rfl);rotate_left;(simp only [Act.put,List.setIfInBounds_toArray,List.set_cons_zero,List.set_cons_succ,i64_w,i32_w];rfl)
      refine pure_ (i:=1) (N:=some 41) (v:=?_) (a':=?_) #[true,true,false,false,false,false] rfl rfl (by kernel_rfl) (fun _ _ _ h=>h) (Or.inl ⟨by rfl,?_⟩) ?_ ?_
      rotate_left;(intro w';go_simp;with_reducible rfl);rotate_left;(simp only [Act.put,List.setIfInBounds_toArray,List.set_cons_zero,List.set_cons_succ,i64_w,i32_w];rfl)
      refine pure_ (i:=2) (N:=some 42) (v:=?_) (a':=?_) #[true,true,true,false,false,false] rfl rfl (by kernel_rfl) (fun _ _ _ h=>h) (Or.inl ⟨by rfl,?_⟩) ?_ ?_
      rotate_left;(intro w';go_simp;with_reducible rfl);rotate_left;(simp only [Act.put,List.setIfInBounds_toArray,List.set_cons_zero,List.set_cons_succ,i64_w,i32_w];rfl)
      refine pure_ (i:=3) (N:=some 43) (v:=?_) (a':=?_) #[true,true,true,true,false,false] rfl rfl (by kernel_rfl) (fun _ _ _ h=>h) (Or.inl ⟨by rfl,?_⟩) ?_ ?_
      rotate_left;(intro w';go_simp;with_reducible rfl);rotate_left;(simp only [Act.put,List.setIfInBounds_toArray,List.set_cons_zero,List.set_cons_succ,i64_w,i32_w];rfl)
      refine pure_ (i:=4) (N:=some 8) (v:=?_) (a':=?_) #[true,true,true,true,true,false] rfl rfl (by kernel_rfl) (fun _ _ _ h=>h) (Or.inl ⟨by rfl,?_⟩) ?_ ?_
      rotate_left;(intro w';go_simp;with_reducible rfl);rotate_left;(simp only [Act.put,List.setIfInBounds_toArray,List.set_cons_zero,List.set_cons_succ,i64_w,i32_w];rfl)
      refine pure_ (i:=5) (N:=some 4) (v:=?_) (a':=?_) #[true,true,true,true,true,true] rfl rfl (by kernel_rfl) (fun _ _ _ h=>h) (Or.inl ⟨by rfl,?_⟩) ?_ ?_
      rotate_left;(intro w';go_simp;with_reducible rfl);rotate_left;(simp only [Act.put,List.setIfInBounds_toArray,List.set_cons_zero,List.set_cons_succ,i64_w,i32_w];rfl)
      refine done_ (by kernel_rfl) ?_
      (try clear hHeld)
      rw [HEJ.out]
      have hT3 : TS w2 v bs w3.drew:=⟨HT3.out.bd.grow fun k hk=>rfl,HT3.out.below.drew⟩
      have HT3:=Aside0.mk hT3
      clear hT3
      go_wp2_with (go_at_call 43;fail)
      refine (ts_write HT3.out (UInt8.ofNat n) _ (by rw [UInt8.toNat_ofNat'];omega) (by have:=HB.out;omega)).mono ?_
      rintro e w4 ⟨rfl,v4,hT4⟩
      have HT4:=Aside0.mk hT4
      clear hT4
      go_wp2
      go_roundg r'.length
      case measure=>have:=HL.out;simp only [List.length_cons] at this;omega
      case rel =>
       refine ⟨r',bs ++ [UInt8.ofNat n],v4,?_,⟨rfl⟩,⟨?_⟩,HT4,⟨?_⟩⟩
       ·congr 1
        rw [HJ.out,arr_cut,List.take_of_length_le (by rw [List.length_cons];omega)]
        rfl
       ·rw [HRS.out]
        cases dec r' with
        | none=>rfl
        | some x=>simp
       ·have:=HB.out
        simp only [List.length_append,List.length_cons,List.length_nil] at *
        omega
   ·have hd : ((m : Int) == 92)=false:=by rw [beq_eq_false_iff_ne];omega
    have hres:=HR.out
    rw [dec_plain c r (by rw [← HM.out];exact hc)] at hres
    have HRS:=Aside0.mk hres
    clear hres HR hc
    go_wp2_with (go_at_call 43;fail)
    refine (ts_write HT.out c _ (by rw [HM.out]) (by have:=HB.out;omega)).mono ?_
    rintro e w3 ⟨rfl,v3,hT3⟩
    have HT3:=Aside0.mk hT3
    clear hT3
    go_wp2
    go_roundg r.length
    case measure=>have:=HL.out;rw [List.length_cons] at this;omega
    case rel =>
     refine ⟨r,bs ++ [c],v3,?_,⟨rfl⟩,⟨?_⟩,HT3,⟨?_⟩⟩
     ·congr 1
      rw [HI.out,arr_cut,List.take_of_length_le (by rw [List.length_cons];omega)]
      rfl
     ·rw [HRS.out]
      cases dec r with
      | none=>rfl
      | some x=>simp
     ·have:=HB.out
      rw [List.length_append,List.length_cons] at *
      simp at *
      omega
end Go.Proofs.YtifpjhghbafcjaaDoor.P

