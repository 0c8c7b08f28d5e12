/- Texts of ValueAll. Merged: HRead. -/
import Derived.Test.YtifpjhghbafcjaaDoorQValueAllHTabs
/- value.Read, by hand. -/
namespace Go.Proofs.YtifpjhghbafcjaaDoor.P
open Go.RowKit Go.Proofs.YtifpjhghbafcjaaDoorW.PrintWords Go.Proofs.YtifpjhghbafcjaaDoorW.PrintLast Go.Proofs.YtifpjhghbafcjaaDoorW.PrintMore
set_option linter.unusedVariables false
set_option linter.unusedSimpArgs false
theorem below_or {w w' : World} (h : w'=w ∨ ∃ s,w'=Lib.bytesWorld w 5 s) : Below w.heap.size w w':=by
 rcases h with rfl|⟨s,rfl⟩
 ·exact Below.refl _ _
 ·exact bytes_below w s
theorem pint_any (s : ByteArray) (hs : s.size≤1000) (w : World) (hE : TabsE w) :
  Calls Tryd.prog 30 #[.string s,.int .i64 10,.int .i64 64] w fun e w'=>(match Lib.parseIntB 64 s.data.toList with|.ok v=>e=.returned (.tuple #[.int .i64 v,.nilIface])|_=>∃ (n : Int) (N : Nat),e=.returned (.tuple #[.int .i64 n,.iface 81 (.pointer (some ⟨N,0,none⟩))]))∧Below w.heap.size w w':=by
 rcases h : Lib.parseIntB 64 s.data.toList with v|_|_
 ·skip
  refine (Tryd.strconv_ParseInt_10_at64_ok s (by omega) v h w).mono ?_
  rintro e w' ⟨rfl,hw⟩
  exact ⟨rfl,below_or hw⟩
 ·skip
  obtain ⟨_,ev,hv,hev⟩:=hE.syn
  refine (Any.strconv_ParseInt_10_at64_syntax Tryd.laysC174 s (by omega) h ev w hv hev).mono ?_
  rintro e w' ⟨N,rfl,_,_,hb⟩
  exact ⟨⟨_,N,rfl⟩,hb⟩
 ·skip
  obtain ⟨_,ev,hv,hev⟩:=hE.rng
  refine (Any.strconv_ParseInt_10_at64_range Tryd.laysC174 s (by omega) h ev w hv hev).mono ?_
  rintro e w' ⟨N,rfl,_,_,hb⟩
  exact ⟨⟨_,N,rfl⟩,hb⟩
theorem puint_any (s : ByteArray) (hs : s.size≤1000) (w : World) (hE : TabsE w) :
  Calls Tryd.prog 31 #[.string s,.int .i64 10,.int .i64 64] w fun e w'=>(match Lib.parseUintB 64 s.data.toList with|.ok v=>e=.returned (.tuple #[.int .u64 (v : Int),.nilIface])|_=>∃ (n : Int) (N : Nat),e=.returned (.tuple #[.int .u64 n,.iface 81 (.pointer (some ⟨N,0,none⟩))]))∧Below w.heap.size w w':=by
 rcases h : Lib.parseUintB 64 s.data.toList with v|_|_
 ·skip
  refine (Tryd.strconv_ParseUint_10_at64_ok s (by omega) v h w).mono ?_
  rintro e w' ⟨rfl,hw⟩
  exact ⟨rfl,below_or (hw.imp id fun h=>⟨_,h⟩)⟩
 ·skip
  obtain ⟨_,ev,hv,hev⟩:=hE.syn
  refine (Any.strconv_ParseUint_10_at64_syntax Tryd.laysPu14 s (by omega) h ev w hv hev).mono ?_
  rintro e w' ⟨N,rfl,_,_,hb⟩
  exact ⟨⟨_,N,rfl⟩,hb⟩
 ·skip
  obtain ⟨_,ev,hv,hev⟩:=hE.rng
  refine (Any.strconv_ParseUint_10_at64_range Tryd.laysPu14 s (by omega) h ev w hv hev).mono ?_
  rintro e w' ⟨N,rfl,_,_,hb⟩
  exact ⟨⟨_,N,rfl⟩,hb⟩
def value_Read.p (t : Int) (s : ByteArray) : Option (Int × ByteArray) :=
 if t=1 then (match Lib.parseIntB 64 s.data.toList with|.ok v=>some (v,⟨#[]⟩)|_=>none)
 else if t=2 then (match Lib.parseUintB 64 s.data.toList with|.ok u=>some (wrap64 (u : Int),⟨#[]⟩)|_=>none)
 else (if (textL s.data.toList).2=true then some (0,⟨(textL s.data.toList).1.toArray⟩) else none)
def value_Read.f (t : Int) (s : ByteArray) : Option (Int × ByteArray × Bool) :=
 if s.size≤1000 then some (match value_Read.p t s with|some v=>if s.size≠0∧value_Text.f t v.1 v.2=some s then (v.1,v.2,true) else (0,⟨#[]⟩,false)|none=>(0,⟨#[]⟩,false)) else none
theorem pint_rng (l : List UInt8) (v : Int) (h : Lib.parseIntB 64 l=.ok v) : -9223372036854775808≤v∧v≤9223372036854775807:=by
 unfold Lib.parseIntB at h
 rcases l with _|⟨c,r⟩
 ·cases h
 ·simp only at h
  split at h
  ·cases h
  ·cases h
  ·rename_i u hu
   split at h
   ·cases h
   ·split at h
    ·cases h
    ·rename_i h1 h2
     have e:=Lib.NumEnd.ok.inj h
     subst e
     split <;> omega
theorem pint_text (l : List UInt8) (v : Int) (h : Lib.parseIntB 64 l=.ok v) : ∃ rt,value_Text.f 1 v ⟨#[]⟩=some rt:=by
 refine ⟨⟨(Lib.itoa v).toArray⟩,?_⟩
 unfold value_Text.f
 rw [if_pos rfl,if_pos (show (⟨#[]⟩ : ByteArray).size=0 from rfl),if_pos (pint_rng l v h)]
theorem puint_text (n : Int) : ∃ rt,value_Text.f 2 n ⟨#[]⟩=some rt:=by
 refine ⟨⟨(Lib.decDigits (n % 18446744073709551616).toNat).toArray⟩,?_⟩
 unfold value_Text.f
 rw [if_neg (by decide),if_pos rfl,if_pos (show (⟨#[]⟩ : ByteArray).size=0 from rfl)]
theorem text_text (t : Int) (b : ByteArray) (h1 : t≠1) (h2 : t≠2) : ∃ rt,value_Text.f t 0 b=some rt:=by
 unfold value_Text.f
 rw [if_neg h1,if_neg h2]
 split
 ·split
  ·exact ⟨_,rfl⟩
  ·exact ⟨_,rfl⟩
 ·exact ⟨_,rfl⟩
theorem read_yes {t : Int} {s : ByteArray} {r : Int × ByteArray × Bool} {v : Int × ByteArray} (h : value_Read.f t s=some r) (hp : value_Read.p t s=some v) (hz : s.size≠0) (ht : value_Text.f t v.1 v.2=some s) : r=(v.1,v.2,true):=by
 unfold value_Read.f at h
 split at h
 ·rw [hp] at h
  have:=Option.some.inj h
  simp only at this
  rw [if_pos ⟨hz,ht⟩] at this
  exact this.symm
 ·cases h
theorem read_no {t : Int} {s : ByteArray} {r : Int × ByteArray × Bool} {v : Int × ByteArray} (h : value_Read.f t s=some r) (hp : value_Read.p t s=some v) (hz : ¬ (s.size≠0∧value_Text.f t v.1 v.2=some s)) : r=(0,⟨#[]⟩,false):=by
 unfold value_Read.f at h
 split at h
 ·rw [hp] at h
  have:=Option.some.inj h
  simp only at this
  rw [if_neg hz] at this
  exact this.symm
 ·cases h
theorem read_none {t : Int} {s : ByteArray} {r : Int × ByteArray × Bool} (h : value_Read.f t s=some r) (hp : value_Read.p t s=none) : r=(0,⟨#[]⟩,false):=by
 unfold value_Read.f at h
 split at h
 ·rw [hp] at h
  exact (Option.some.inj h).symm
 ·cases h
theorem empty_of (s : ByteArray) (h : s.size=0) : s.toList.isEmpty=true:=by
 rw [ByteArray.toList_eq,List.isEmpty_iff]
 exact List.length_eq_zero_iff.1 (by simpa using h)
theorem empty_not (s : ByteArray) (h : s.size≠0) : s.toList.isEmpty=false:=by
 rw [ByteArray.toList_eq,List.isEmpty_eq_false_iff]
 intro e
 have:=congrArg List.length e
 exact h (by simpa using this)
structure RS (w : World) (n : Int) (b : ByteArray) (W : World) : Prop where
 b0 : W.heap[w.heap.size]?=some (.cells #[.int .i64 0,.string ⟨#[]⟩] 23 (0,0))
 b1 : W.heap[w.heap.size + 1]?=some (.cells #[.int .i64 n,.string b] 23 (0,0))
 below : Below w.heap.size w W
theorem RS.start (w : World) : RS w 0 ⟨#[]⟩ ((w.alloc (.cells #[.int .i64 0,.string ⟨#[]⟩] 23)).alloc (.cells #[.int .i64 0,.string ⟨#[]⟩] 23)) where
 b0:=by rw [Below.heap_alloc _ _ _ (by simp)];exact blk_new w _
 b1:=by
  have h:=blk_new (w.alloc (.cells #[.int .i64 0,.string ⟨#[]⟩] 23)) (.cells #[.int .i64 0,.string ⟨#[]⟩] 23)
  simpa using h
 below:=((Below.refl _ _).alloc (Nat.le_refl _) _).alloc (by simp) _
theorem RS.on {w W W' : World} {n : Int} {b : ByteArray} (h : RS w n b W) (hb : Below W.heap.size W W') : RS w n b W' where
 b0:=(hb.block _ (blk_lt h.b0)).trans h.b0
 b1:=(hb.block _ (blk_lt h.b1)).trans h.b1
 below:=h.below.trans (hb.mono h.below.size)
theorem RS.set0 {w W : World} {n m : Int} {b : ByteArray} (h : RS w n b W) : RS w m b (W.setCell ⟨w.heap.size + 1,0,none⟩ (.int .i64 m)) where
 b0:=by rw [Below.heap_setCell _ _ _ _ (by simp)];exact h.b0
 b1:=by
  have:=blk_set h.b1 0 (.int .i64 m)
  simpa using this
 below:=h.below.setCell (p:=⟨w.heap.size + 1,0,none⟩) (Nat.le_succ _) _
theorem RS.set1 {w W : World} {n : Int} {b c : ByteArray} (h : RS w n b W) : RS w n c (W.setCell ⟨w.heap.size + 1,1,none⟩ (.string c)) where
 b0:=by rw [Below.heap_setCell _ _ _ _ (by simp)];exact h.b0
 b1:=by
  have:=blk_set h.b1 1 (.string c)
  simpa using this
 below:=h.below.setCell (p:=⟨w.heap.size + 1,1,none⟩) (Nat.le_succ _) _
theorem RS.drew {w W : World} {n : Int} {b : ByteArray} (h : RS w n b W) : RS w n b W.drew:=⟨h.b0,h.b1,h.below.drew⟩
set_option maxHeartbeats 4000000 in
set_option maxRecDepth 100000 in
theorem read_int (s : ByteArray) (w : World) (hs : s.size≤1000) (htab : TabsE w) (r : Int × ByteArray × Bool) (h : value_Read.f 1 s=some r) :
  Calls Tryd.prog 15 #[.int .i64 1,.string s] w fun e w'=>e=.returned (.tuple #[.agg #[.int .i64 r.1,.string r.2.1],.bool r.2.2])∧Below w.heap.size w w':=by
 have hu23:=Tryd.underlying23
 have H0:=Aside0.mk (RS.start w)
 have HT:=Aside0.mk htab
 have HS:=Aside0.mk hs
 have HF:=Aside0.mk h
 clear htab hs h
 go_enter Tryd.func15,Tryd.ntmps15
 go_wp2_with (go_at_call 30;fail)
 refine (pint_any s HS.out _ (HT.out.on H0.out.below)).mono ?_
 rintro e w3 ⟨he,hb3⟩
 have hR:=H0.out.on hb3
 have HR:=Aside0.mk hR
 clear hR hb3 H0
 have f0 : w3.frozen? ⟨w.heap.size + 1,0,none⟩=false:=blk_frozen HR.out.b1 0
 have c0 : w3.cell? ⟨w.heap.size + 1,0,none⟩=some (.int .i64 0):=by rw [blk_cell HR.out.b1];rfl
 rcases hp : Lib.parseIntB 64 s.data.toList with v|_|_
 ·skip
  rw [hp] at he
  subst he
  go_wp2
  refine start_ (n:=6) (S:=fun w'=>True) (ds:=[]) #[false,false,false,false,false,false] (by kernel_rfl) rfl rfl trivial (fun hHeld=>?_)
  refine pure_ (i:=0) (N:=some 26) (v:=?_) (a':=?_) #[true,false,false,false,false,false] rfl rfl (by kernel_rfl) (fun _ _ _ h=>h) (Or.inl ⟨by rfl,?_⟩) ?_ ?_
  rotate_left;(intro w';go_simp;with_reducible rfl);rotate_left;(simp only [Act.put,List.setIfInBounds_toArray,List.set_cons_zero,List.set_cons_succ,i64_w,i32_w];rfl)
  refine pure_ (i:=1) (N:=some 27) (v:=?_) (a':=?_) #[true,true,false,false,false,false] rfl rfl (by kernel_rfl) (fun _ _ _ h=>h) (Or.inl ⟨by rfl,?_⟩) ?_ ?_
  rotate_left;(intro w';go_simp;with_reducible rfl);rotate_left;(simp only [Act.put,List.setIfInBounds_toArray,List.set_cons_zero,List.set_cons_succ,i64_w,i32_w];rfl)
  refine pure_ (i:=2) (N:=some 28) (v:=?_) (a':=?_) #[true,true,true,false,false,false] rfl rfl (by kernel_rfl) (fun _ _ _ h=>h) (Or.inl ⟨by rfl,?_⟩) ?_ ?_
  rotate_left;(intro w';go_simp;with_reducible rfl);rotate_left;(simp only [Act.put,List.setIfInBounds_toArray,List.set_cons_zero,List.set_cons_succ,i64_w,i32_w];rfl)
  refine pure_ (i:=3) (N:=some 29) (v:=?_) (a':=?_) #[true,true,true,true,false,false] rfl rfl (by kernel_rfl) (fun _ _ _ h=>h) (Or.inl ⟨by rfl,?_⟩) ?_ ?_
  rotate_left;(intro w';go_simp;with_reducible rfl);rotate_left;(simp only [Act.put,List.setIfInBounds_toArray,List.set_cons_zero,List.set_cons_succ,i64_w,i32_w];rfl)
  refine one_ (i:=4) (N:=none) #[true,true,true,true,true,false] rfl rfl (by kernel_rfl) (by decide) (fun K hK=>?_)
  refine skip_ (w1:=?_) (by rfl) rfl ?_ ?_
  rotate_left
  ·go_simp
   rfl
  refine hK.out _ _ trivial (fun hHeld=>?_)
  clear hK K
  refine pure_ (i:=5) (N:=some 7) (v:=?_) (a':=?_) #[true,true,true,true,true,true] rfl rfl (by kernel_rfl) (fun _ _ _ h=>h) (Or.inl ⟨by rfl,?_⟩) ?_ ?_
  rotate_left;(intro w';go_simp;with_reducible rfl);rotate_left;(simp only [Act.put,List.setIfInBounds_toArray,List.set_cons_zero,List.set_cons_succ,i64_w,i32_w];rfl)
  refine done_ (by kernel_rfl) ?_
  (try clear hHeld)
  obtain ⟨w4,hw4⟩ : ∃ W,W=(w3.setCell ⟨w.heap.size + 1,0,none⟩ (.int .i64 v)).drew:=⟨_,rfl⟩
  have hR2 : RS w v ⟨#[]⟩ w4:=by rw [hw4];exact HR.out.set0.drew
  rw [← hw4]
  have HR4:=Aside0.mk hR2
  have HP:=Aside0.mk (show value_Read.p 1 s=some (v,⟨#[]⟩) by unfold value_Read.p;rw [if_pos rfl,hp])
  have HX:=Aside0.mk (show ∃ rt,value_Text.f 1 v ⟨#[]⟩=some rt from pint_text s.data.toList v hp)
  clear hp hw4 hR2 HR c0 f0
  obtain ⟨rt,hrt⟩:=HX.out
  have HRT:=Aside0.mk hrt
  clear hrt HX
  have c00 : w4.cell? ⟨w.heap.size,0,none⟩=some (.int .i64 0):=by rw [blk_cell HR4.out.b0];rfl
  have c01 : w4.cell? ⟨w.heap.size,1,none⟩=some (.string ⟨#[]⟩):=by rw [blk_cell HR4.out.b0];rfl
  have c10 : w4.cell? ⟨w.heap.size + 1,0,none⟩=some (.int .i64 v):=by rw [blk_cell HR4.out.b1];rfl
  have c11 : w4.cell? ⟨w.heap.size + 1,1,none⟩=some (.string ⟨#[]⟩):=by rw [blk_cell HR4.out.b1];rfl
  have f00 : w4.frozen? ⟨w.heap.size,0,none⟩=false:=blk_frozen HR4.out.b0 0
  have f01 : w4.frozen? ⟨w.heap.size,1,none⟩=false:=blk_frozen HR4.out.b0 1
  by_cases hz : s.size=0
  ·have hem:=empty_of s hz
   obtain rfl:=read_no HF.out HP.out (fun h=>h.1 hz)
   clear hz HF HP HRT
   go_wp2
   refine bodyPost_ret (results_ct rfl _ _ w.heap.size 23 #[.int .i64 0,.string ⟨#[]⟩] (0,0) _ rfl (by refine blk_put (cs:=#[.int .i64 0,.string ⟨#[]⟩]) ?_ 1 _ rfl;refine blk_put (cs:=#[.int .i64 0,.string ⟨#[]⟩]) ?_ 0 _ rfl;exact HR4.out.b0) Tryd.underlying23 rfl (by kernel_rfl)) rfl ?_
   exact ⟨rfl,(HR4.out.below.setCell (p:=⟨w.heap.size,0,none⟩) (Nat.le_refl _) _).setCell (p:=⟨w.heap.size,1,none⟩) (Nat.le_refl _) _⟩
  ·have hem:=empty_not s hz
   go_wp2_with (go_at_call 13;fail)
   refine (value_Text.calls _ _ _ rt _ HRT.out (HT.out.t.on HR4.out.below)).mono ?_
   rintro e w5 ⟨rfl,hb5⟩
   have hR5:=HR4.out.on hb5
   have HR5:=Aside0.mk hR5
   clear hR5 hb5 c00 c01 c10 c11 f00 f01 HR4
   have c00 : w5.cell? ⟨w.heap.size,0,none⟩=some (.int .i64 0):=by rw [blk_cell HR5.out.b0];rfl
   have c01 : w5.cell? ⟨w.heap.size,1,none⟩=some (.string ⟨#[]⟩):=by rw [blk_cell HR5.out.b0];rfl
   have c10 : w5.cell? ⟨w.heap.size + 1,0,none⟩=some (.int .i64 v):=by rw [blk_cell HR5.out.b1];rfl
   have c11 : w5.cell? ⟨w.heap.size + 1,1,none⟩=some (.string ⟨#[]⟩):=by rw [blk_cell HR5.out.b1];rfl
   have f00 : w5.frozen? ⟨w.heap.size,0,none⟩=false:=blk_frozen HR5.out.b0 0
   have f01 : w5.frozen? ⟨w.heap.size,1,none⟩=false:=blk_frozen HR5.out.b0 1
   by_cases hq : rt=s
   ·subst hq
    obtain rfl:=read_yes HF.out HP.out hz HRT.out
    have hn : (!(rt.toList == rt.toList))=false:=by simp
    clear hz HF HP HRT
    go_wp2
    refine bodyPost_ret (results_ct rfl _ _ w.heap.size 23 #[.int .i64 v,.string ⟨#[]⟩] (0,0) _ rfl (by refine blk_put (cs:=#[.int .i64 v,.string ⟨#[]⟩]) ?_ 1 _ rfl;refine blk_put (cs:=#[.int .i64 0,.string ⟨#[]⟩]) ?_ 0 _ rfl;exact HR5.out.b0) Tryd.underlying23 rfl (by kernel_rfl)) rfl ?_
    exact ⟨rfl,(HR5.out.below.setCell (p:=⟨w.heap.size,0,none⟩) (Nat.le_refl _) _).setCell (p:=⟨w.heap.size,1,none⟩) (Nat.le_refl _) _⟩
   ·obtain rfl:=read_no HF.out HP.out (fun h=>hq (Option.some.inj (HRT.out.symm.trans h.2)))
    have hn : (!(rt.toList == s.toList))=true:=by
     rw [ByteArray.toList_eq,ByteArray.toList_eq]
     have : rt.data.toList≠s.data.toList:=fun e=>hq (ByteArray.ext (Array.ext' e))
     simpa using this
    clear hz hq HF HP HRT
    go_wp2
    refine bodyPost_ret (results_ct rfl _ _ w.heap.size 23 #[.int .i64 0,.string ⟨#[]⟩] (0,0) _ rfl (by refine blk_put (cs:=#[.int .i64 0,.string ⟨#[]⟩]) ?_ 1 _ rfl;refine blk_put (cs:=#[.int .i64 0,.string ⟨#[]⟩]) ?_ 0 _ rfl;exact HR5.out.b0) Tryd.underlying23 rfl (by kernel_rfl)) rfl ?_
    exact ⟨rfl,(HR5.out.below.setCell (p:=⟨w.heap.size,0,none⟩) (Nat.le_refl _) _).setCell (p:=⟨w.heap.size,1,none⟩) (Nat.le_refl _) _⟩
 ·skip
  rw [hp] at he
  obtain ⟨n,N,rfl⟩:=he
  go_wp2
  refine start_ (n:=6) (S:=fun w'=>True) (ds:=[]) #[false,false,false,false,false,false] (by kernel_rfl) rfl rfl trivial (fun hHeld=>?_)
  refine pure_ (i:=0) (N:=some 26) (v:=?_) (a':=?_) #[true,false,false,false,false,false] rfl rfl (by kernel_rfl) (fun _ _ _ h=>h) (Or.inl ⟨by rfl,?_⟩) ?_ ?_
  rotate_left;(intro w';go_simp;with_reducible rfl);rotate_left;(simp only [Act.put,List.setIfInBounds_toArray,List.set_cons_zero,List.set_cons_succ,i64_w,i32_w];rfl)
  refine pure_ (i:=1) (N:=some 27) (v:=?_) (a':=?_) #[true,true,false,false,false,false] rfl rfl (by kernel_rfl) (fun _ _ _ h=>h) (Or.inl ⟨by rfl,?_⟩) ?_ ?_
  rotate_left;(intro w';go_simp;with_reducible rfl);rotate_left;(simp only [Act.put,List.setIfInBounds_toArray,List.set_cons_zero,List.set_cons_succ,i64_w,i32_w];rfl)
  refine pure_ (i:=2) (N:=some 28) (v:=?_) (a':=?_) #[true,true,true,false,false,false] rfl rfl (by kernel_rfl) (fun _ _ _ h=>h) (Or.inl ⟨by rfl,?_⟩) ?_ ?_
  rotate_left;(intro w';go_simp;with_reducible rfl);rotate_left;(simp only [Act.put,List.setIfInBounds_toArray,List.set_cons_zero,List.set_cons_succ,i64_w,i32_w];rfl)
  refine pure_ (i:=3) (N:=some 29) (v:=?_) (a':=?_) #[true,true,true,true,false,false] rfl rfl (by kernel_rfl) (fun _ _ _ h=>h) (Or.inl ⟨by rfl,?_⟩) ?_ ?_
  rotate_left;(intro w';go_simp;with_reducible rfl);rotate_left;(simp only [Act.put,List.setIfInBounds_toArray,List.set_cons_zero,List.set_cons_succ,i64_w,i32_w];rfl)
  refine one_ (i:=4) (N:=none) #[true,true,true,true,true,false] rfl rfl (by kernel_rfl) (by decide) (fun K hK=>?_)
  refine skip_ (w1:=?_) (by rfl) rfl ?_ ?_
  rotate_left
  ·go_simp
   rfl
  refine hK.out _ _ trivial (fun hHeld=>?_)
  clear hK K
  refine pure_ (i:=5) (N:=some 7) (v:=?_) (a':=?_) #[true,true,true,true,true,true] rfl rfl (by kernel_rfl) (fun _ _ _ h=>h) (Or.inl ⟨by rfl,?_⟩) ?_ ?_
  rotate_left;(intro w';go_simp;with_reducible rfl);rotate_left;(simp only [Act.put,List.setIfInBounds_toArray,List.set_cons_zero,List.set_cons_succ,i64_w,i32_w];rfl)
  refine done_ (by kernel_rfl) ?_
  (try clear hHeld)
  obtain ⟨w4,hw4⟩ : ∃ W,W=(w3.setCell ⟨w.heap.size + 1,0,none⟩ (.int .i64 n)).drew:=⟨_,rfl⟩
  have hR2 : RS w n ⟨#[]⟩ w4:=by rw [hw4];exact HR.out.set0.drew
  rw [← hw4]
  have HR4:=Aside0.mk hR2
  have HP:=Aside0.mk (show value_Read.p 1 s=none by unfold value_Read.p;rw [if_pos rfl,hp])
  clear hp hw4 hR2 HR c0 f0
  obtain rfl:=read_none HF.out HP.out
  clear HF HP
  have c00 : w4.cell? ⟨w.heap.size,0,none⟩=some (.int .i64 0):=by rw [blk_cell HR4.out.b0];rfl
  have c01 : w4.cell? ⟨w.heap.size,1,none⟩=some (.string ⟨#[]⟩):=by rw [blk_cell HR4.out.b0];rfl
  have c10 : w4.cell? ⟨w.heap.size + 1,0,none⟩=some (.int .i64 n):=by rw [blk_cell HR4.out.b1];rfl
  have c11 : w4.cell? ⟨w.heap.size + 1,1,none⟩=some (.string ⟨#[]⟩):=by rw [blk_cell HR4.out.b1];rfl
  have f00 : w4.frozen? ⟨w.heap.size,0,none⟩=false:=blk_frozen HR4.out.b0 0
  have f01 : w4.frozen? ⟨w.heap.size,1,none⟩=false:=blk_frozen HR4.out.b0 1
  go_wp2
  refine bodyPost_ret (results_ct rfl _ _ w.heap.size 23 #[.int .i64 0,.string ⟨#[]⟩] (0,0) _ rfl (by refine blk_put (cs:=#[.int .i64 0,.string ⟨#[]⟩]) ?_ 1 _ rfl;refine blk_put (cs:=#[.int .i64 0,.string ⟨#[]⟩]) ?_ 0 _ rfl;exact HR4.out.b0) Tryd.underlying23 rfl (by kernel_rfl)) rfl ?_
  exact ⟨rfl,(HR4.out.below.setCell (p:=⟨w.heap.size,0,none⟩) (Nat.le_refl _) _).setCell (p:=⟨w.heap.size,1,none⟩) (Nat.le_refl _) _⟩
 ·skip
  rw [hp] at he
  obtain ⟨n,N,rfl⟩:=he
  go_wp2
  refine start_ (n:=6) (S:=fun w'=>True) (ds:=[]) #[false,false,false,false,false,false] (by kernel_rfl) rfl rfl trivial (fun hHeld=>?_)
  refine pure_ (i:=0) (N:=some 26) (v:=?_) (a':=?_) #[true,false,false,false,false,false] rfl rfl (by kernel_rfl) (fun _ _ _ h=>h) (Or.inl ⟨by rfl,?_⟩) ?_ ?_
  rotate_left;(intro w';go_simp;with_reducible rfl);rotate_left;(simp only [Act.put,List.setIfInBounds_toArray,List.set_cons_zero,List.set_cons_succ,i64_w,i32_w];rfl)
  refine pure_ (i:=1) (N:=some 27) (v:=?_) (a':=?_) #[true,true,false,false,false,false] rfl rfl (by kernel_rfl) (fun _ _ _ h=>h) (Or.inl ⟨by rfl,?_⟩) ?_ ?_
  rotate_left;(intro w';go_simp;with_reducible rfl);rotate_left;(simp only [Act.put,List.setIfInBounds_toArray,List.set_cons_zero,List.set_cons_succ,i64_w,i32_w];rfl)
  refine pure_ (i:=2) (N:=some 28) (v:=?_) (a':=?_) #[true,true,true,false,false,false] rfl rfl (by kernel_rfl) (fun _ _ _ h=>h) (Or.inl ⟨by rfl,?_⟩) ?_ ?_
  rotate_left;(intro w';go_simp;with_reducible rfl);rotate_left;(simp only [Act.put,List.setIfInBounds_toArray,List.set_cons_zero,List.set_cons_succ,i64_w,i32_w];rfl)
  refine pure_ (i:=3) (N:=some 29) (v:=?_) (a':=?_) #[true,true,true,true,false,false] rfl rfl (by kernel_rfl) (fun _ _ _ h=>h) (Or.inl ⟨by rfl,?_⟩) ?_ ?_
  rotate_left;(intro w';go_simp;with_reducible rfl);rotate_left;(simp only [Act.put,List.setIfInBounds_toArray,List.set_cons_zero,List.set_cons_succ,i64_w,i32_w];rfl)
  refine one_ (i:=4) (N:=none) #[true,true,true,true,true,false] rfl rfl (by kernel_rfl) (by decide) (fun K hK=>?_)
  refine skip_ (w1:=?_) (by rfl) rfl ?_ ?_
  rotate_left
  ·go_simp
   rfl
  refine hK.out _ _ trivial (fun hHeld=>?_)
  clear hK K
  refine pure_ (i:=5) (N:=some 7) (v:=?_) (a':=?_) #[true,true,true,true,true,true] rfl rfl (by kernel_rfl) (fun _ _ _ h=>h) (Or.inl ⟨by rfl,?_⟩) ?_ ?_
  rotate_left;(intro w';go_simp;with_reducible rfl);rotate_left;(simp only [Act.put,List.setIfInBounds_toArray,List.set_cons_zero,List.set_cons_succ,i64_w,i32_w];rfl)
  refine done_ (by kernel_rfl) ?_
  (try clear hHeld)
  obtain ⟨w4,hw4⟩ : ∃ W,W=(w3.setCell ⟨w.heap.size + 1,0,none⟩ (.int .i64 n)).drew:=⟨_,rfl⟩
  have hR2 : RS w n ⟨#[]⟩ w4:=by rw [hw4];exact HR.out.set0.drew
  rw [← hw4]
  have HR4:=Aside0.mk hR2
  have HP:=Aside0.mk (show value_Read.p 1 s=none by unfold value_Read.p;rw [if_pos rfl,hp])
  clear hp hw4 hR2 HR c0 f0
  obtain rfl:=read_none HF.out HP.out
  clear HF HP
  have c00 : w4.cell? ⟨w.heap.size,0,none⟩=some (.int .i64 0):=by rw [blk_cell HR4.out.b0];rfl
  have c01 : w4.cell? ⟨w.heap.size,1,none⟩=some (.string ⟨#[]⟩):=by rw [blk_cell HR4.out.b0];rfl
  have c10 : w4.cell? ⟨w.heap.size + 1,0,none⟩=some (.int .i64 n):=by rw [blk_cell HR4.out.b1];rfl
  have c11 : w4.cell? ⟨w.heap.size + 1,1,none⟩=some (.string ⟨#[]⟩):=by rw [blk_cell HR4.out.b1];rfl
  have f00 : w4.frozen? ⟨w.heap.size,0,none⟩=false:=blk_frozen HR4.out.b0 0
  have f01 : w4.frozen? ⟨w.heap.size,1,none⟩=false:=blk_frozen HR4.out.b0 1
  go_wp2
  refine bodyPost_ret (results_ct rfl _ _ w.heap.size 23 #[.int .i64 0,.string ⟨#[]⟩] (0,0) _ rfl (by refine blk_put (cs:=#[.int .i64 0,.string ⟨#[]⟩]) ?_ 1 _ rfl;refine blk_put (cs:=#[.int .i64 0,.string ⟨#[]⟩]) ?_ 0 _ rfl;exact HR4.out.b0) Tryd.underlying23 rfl (by kernel_rfl)) rfl ?_
  exact ⟨rfl,(HR4.out.below.setCell (p:=⟨w.heap.size,0,none⟩) (Nat.le_refl _) _).setCell (p:=⟨w.heap.size,1,none⟩) (Nat.le_refl _) _⟩
set_option maxHeartbeats 4000000 in
set_option maxRecDepth 100000 in
theorem read_uint (s : ByteArray) (w : World) (hs : s.size≤1000) (htab : TabsE w) (r : Int × ByteArray × Bool) (h : value_Read.f 2 s=some r) :
  Calls Tryd.prog 15 #[.int .i64 2,.string s] w fun e w'=>e=.returned (.tuple #[.agg #[.int .i64 r.1,.string r.2.1],.bool r.2.2])∧Below w.heap.size w w':=by
 have hu23:=Tryd.underlying23
 have H0:=Aside0.mk (RS.start w)
 have HT:=Aside0.mk htab
 have HS:=Aside0.mk hs
 have HF:=Aside0.mk h
 clear htab hs h
 go_enter Tryd.func15,Tryd.ntmps15
 go_wp2_with (go_at_call 31;fail)
 refine (puint_any s HS.out _ (HT.out.on H0.out.below)).mono ?_
 rintro e w3 ⟨he,hb3⟩
 have hR:=H0.out.on hb3
 have HR:=Aside0.mk hR
 clear hR hb3 H0
 have f0 : w3.frozen? ⟨w.heap.size + 1,0,none⟩=false:=blk_frozen HR.out.b1 0
 have c0 : w3.cell? ⟨w.heap.size + 1,0,none⟩=some (.int .i64 0):=by rw [blk_cell HR.out.b1];rfl
 rcases hp : Lib.parseUintB 64 s.data.toList with v|_|_
 ·skip
  rw [hp] at he
  subst he
  go_wp2
  refine start_ (n:=7) (S:=fun w'=>True) (ds:=[]) #[false,false,false,false,false,false,false] (by kernel_rfl) rfl rfl trivial (fun hHeld=>?_)
  refine pure_ (i:=0) (N:=some 37) (v:=?_) (a':=?_) #[true,false,false,false,false,false,false] rfl rfl (by kernel_rfl) (fun _ _ _ h=>h) (Or.inl ⟨by rfl,?_⟩) ?_ ?_
  rotate_left;(intro w';go_simp;with_reducible rfl);rotate_left;(simp only [Act.put,List.setIfInBounds_toArray,List.set_cons_zero,List.set_cons_succ,i64_w,i32_w];rfl)
  refine pure_ (i:=1) (N:=some 38) (v:=?_) (a':=?_) #[true,true,false,false,false,false,false] rfl rfl (by kernel_rfl) (fun _ _ _ h=>h) (Or.inl ⟨by rfl,?_⟩) ?_ ?_
  rotate_left;(intro w';go_simp;with_reducible rfl);rotate_left;(simp only [Act.put,List.setIfInBounds_toArray,List.set_cons_zero,List.set_cons_succ,i64_w,i32_w];rfl)
  refine pure_ (i:=2) (N:=some 39) (v:=?_) (a':=?_) #[true,true,true,false,false,false,false] rfl rfl (by kernel_rfl) (fun _ _ _ h=>h) (Or.inl ⟨by rfl,?_⟩) ?_ ?_
  rotate_left;(intro w';go_simp;with_reducible rfl);rotate_left;(simp only [Act.put,List.setIfInBounds_toArray,List.set_cons_zero,List.set_cons_succ,i64_w,i32_w];rfl)
  refine pure_ (i:=3) (N:=some 40) (v:=?_) (a':=?_) #[true,true,true,true,false,false,false] rfl rfl (by kernel_rfl) (fun _ _ _ h=>h) (Or.inl ⟨by rfl,?_⟩) ?_ ?_
  rotate_left;(intro w';go_simp;with_reducible rfl);rotate_left;(simp only [Act.put,List.setIfInBounds_toArray,List.set_cons_zero,List.set_cons_succ,i64_w,i32_w];rfl)
  refine pure_ (i:=4) (N:=some 41) (v:=?_) (a':=?_) #[true,true,true,true,true,false,false] rfl rfl (by kernel_rfl) (fun _ _ _ h=>h) (Or.inl ⟨by rfl,?_⟩) ?_ ?_
  rotate_left;(intro w';go_simp;with_reducible rfl);rotate_left;(simp only [Act.put,List.setIfInBounds_toArray,List.set_cons_zero,List.set_cons_succ,i64_w,i32_w];rfl)
  refine one_ (i:=5) (N:=none) #[true,true,true,true,true,true,false] rfl rfl (by kernel_rfl) (by decide) (fun K hK=>?_)
  refine skip_ (w1:=?_) (by rfl) rfl ?_ ?_
  rotate_left
  ·go_simp
   rfl
  refine hK.out _ _ trivial (fun hHeld=>?_)
  clear hK K
  refine pure_ (i:=6) (N:=some 7) (v:=?_) (a':=?_) #[true,true,true,true,true,true,true] rfl rfl (by kernel_rfl) (fun _ _ _ h=>h) (Or.inl ⟨by rfl,?_⟩) ?_ ?_
  rotate_left;(intro w';go_simp;with_reducible rfl);rotate_left;(simp only [Act.put,List.setIfInBounds_toArray,List.set_cons_zero,List.set_cons_succ,i64_w,i32_w];rfl)
  refine done_ (by kernel_rfl) ?_
  (try clear hHeld)
  obtain ⟨w4,hw4⟩ : ∃ W,W=(w3.setCell ⟨w.heap.size + 1,0,none⟩ (.int .i64 (wrap64 (v : Int)))).drew:=⟨_,rfl⟩
  have hR2 : RS w (wrap64 (v : Int)) ⟨#[]⟩ w4:=by rw [hw4];exact HR.out.set0.drew
  rw [← hw4]
  have HR4:=Aside0.mk hR2
  have HP:=Aside0.mk (show value_Read.p 2 s=some (wrap64 (v : Int),⟨#[]⟩) by unfold value_Read.p;rw [if_neg (by decide),if_pos rfl,hp])
  have HX:=Aside0.mk (show ∃ rt,value_Text.f 2 (wrap64 (v : Int)) ⟨#[]⟩=some rt from puint_text _)
  clear hp hw4 hR2 HR c0 f0
  obtain ⟨rt,hrt⟩:=HX.out
  have HRT:=Aside0.mk hrt
  clear hrt HX
  have c00 : w4.cell? ⟨w.heap.size,0,none⟩=some (.int .i64 0):=by rw [blk_cell HR4.out.b0];rfl
  have c01 : w4.cell? ⟨w.heap.size,1,none⟩=some (.string ⟨#[]⟩):=by rw [blk_cell HR4.out.b0];rfl
  have c10 : w4.cell? ⟨w.heap.size + 1,0,none⟩=some (.int .i64 (wrap64 (v : Int))):=by rw [blk_cell HR4.out.b1];rfl
  have c11 : w4.cell? ⟨w.heap.size + 1,1,none⟩=some (.string ⟨#[]⟩):=by rw [blk_cell HR4.out.b1];rfl
  have f00 : w4.frozen? ⟨w.heap.size,0,none⟩=false:=blk_frozen HR4.out.b0 0
  have f01 : w4.frozen? ⟨w.heap.size,1,none⟩=false:=blk_frozen HR4.out.b0 1
  by_cases hz : s.size=0
  ·have hem:=empty_of s hz
   obtain rfl:=read_no HF.out HP.out (fun h=>h.1 hz)
   clear hz HF HP HRT
   go_wp2
   refine bodyPost_ret (results_ct rfl _ _ w.heap.size 23 #[.int .i64 0,.string ⟨#[]⟩] (0,0) _ rfl (by refine blk_put (cs:=#[.int .i64 0,.string ⟨#[]⟩]) ?_ 1 _ rfl;refine blk_put (cs:=#[.int .i64 0,.string ⟨#[]⟩]) ?_ 0 _ rfl;exact HR4.out.b0) Tryd.underlying23 rfl (by kernel_rfl)) rfl ?_
   exact ⟨rfl,(HR4.out.below.setCell (p:=⟨w.heap.size,0,none⟩) (Nat.le_refl _) _).setCell (p:=⟨w.heap.size,1,none⟩) (Nat.le_refl _) _⟩
  ·have hem:=empty_not s hz
   go_wp2_with (go_at_call 13;fail)
   refine (value_Text.calls _ _ _ rt _ HRT.out (HT.out.t.on HR4.out.below)).mono ?_
   rintro e w5 ⟨rfl,hb5⟩
   have hR5:=HR4.out.on hb5
   have HR5:=Aside0.mk hR5
   clear hR5 hb5 c00 c01 c10 c11 f00 f01 HR4
   have c00 : w5.cell? ⟨w.heap.size,0,none⟩=some (.int .i64 0):=by rw [blk_cell HR5.out.b0];rfl
   have c01 : w5.cell? ⟨w.heap.size,1,none⟩=some (.string ⟨#[]⟩):=by rw [blk_cell HR5.out.b0];rfl
   have c10 : w5.cell? ⟨w.heap.size + 1,0,none⟩=some (.int .i64 (wrap64 (v : Int))):=by rw [blk_cell HR5.out.b1];rfl
   have c11 : w5.cell? ⟨w.heap.size + 1,1,none⟩=some (.string ⟨#[]⟩):=by rw [blk_cell HR5.out.b1];rfl
   have f00 : w5.frozen? ⟨w.heap.size,0,none⟩=false:=blk_frozen HR5.out.b0 0
   have f01 : w5.frozen? ⟨w.heap.size,1,none⟩=false:=blk_frozen HR5.out.b0 1
   by_cases hq : rt=s
   ·subst hq
    obtain rfl:=read_yes HF.out HP.out hz HRT.out
    have hn : (!(rt.toList == rt.toList))=false:=by simp
    clear hz HF HP HRT
    go_wp2
    refine bodyPost_ret (results_ct rfl _ _ w.heap.size 23 #[.int .i64 (wrap64 (v : Int)),.string ⟨#[]⟩] (0,0) _ rfl (by refine blk_put (cs:=#[.int .i64 (wrap64 (v : Int)),.string ⟨#[]⟩]) ?_ 1 _ rfl;refine blk_put (cs:=#[.int .i64 0,.string ⟨#[]⟩]) ?_ 0 _ rfl;exact HR5.out.b0) Tryd.underlying23 rfl (by kernel_rfl)) rfl ?_
    exact ⟨rfl,(HR5.out.below.setCell (p:=⟨w.heap.size,0,none⟩) (Nat.le_refl _) _).setCell (p:=⟨w.heap.size,1,none⟩) (Nat.le_refl _) _⟩
   ·obtain rfl:=read_no HF.out HP.out (fun h=>hq (Option.some.inj (HRT.out.symm.trans h.2)))
    have hn : (!(rt.toList == s.toList))=true:=by
     rw [ByteArray.toList_eq,ByteArray.toList_eq]
     have : rt.data.toList≠s.data.toList:=fun e=>hq (ByteArray.ext (Array.ext' e))
     simpa using this
    clear hz hq HF HP HRT
    go_wp2
    refine bodyPost_ret (results_ct rfl _ _ w.heap.size 23 #[.int .i64 0,.string ⟨#[]⟩] (0,0) _ rfl (by refine blk_put (cs:=#[.int .i64 0,.string ⟨#[]⟩]) ?_ 1 _ rfl;refine blk_put (cs:=#[.int .i64 0,.string ⟨#[]⟩]) ?_ 0 _ rfl;exact HR5.out.b0) Tryd.underlying23 rfl (by kernel_rfl)) rfl ?_
    exact ⟨rfl,(HR5.out.below.setCell (p:=⟨w.heap.size,0,none⟩) (Nat.le_refl _) _).setCell (p:=⟨w.heap.size,1,none⟩) (Nat.le_refl _) _⟩
 ·skip
  rw [hp] at he
  obtain ⟨n,N,rfl⟩:=he
  go_wp2
  refine start_ (n:=7) (S:=fun w'=>True) (ds:=[]) #[false,false,false,false,false,false,false] (by kernel_rfl) rfl rfl trivial (fun hHeld=>?_)
  refine pure_ (i:=0) (N:=some 37) (v:=?_) (a':=?_) #[true,false,false,false,false,false,false] rfl rfl (by kernel_rfl) (fun _ _ _ h=>h) (Or.inl ⟨by rfl,?_⟩) ?_ ?_
  rotate_left;(intro w';go_simp;with_reducible rfl);rotate_left;(simp only [Act.put,List.setIfInBounds_toArray,List.set_cons_zero,List.set_cons_succ,i64_w,i32_w];rfl)
  refine pure_ (i:=1) (N:=some 38) (v:=?_) (a':=?_) #[true,true,false,false,false,false,false] rfl rfl (by kernel_rfl) (fun _ _ _ h=>h) (Or.inl ⟨by rfl,?_⟩) ?_ ?_
  rotate_left;(intro w';go_simp;with_reducible rfl);rotate_left;(simp only [Act.put,List.setIfInBounds_toArray,List.set_cons_zero,List.set_cons_succ,i64_w,i32_w];rfl)
  refine pure_ (i:=2) (N:=some 39) (v:=?_) (a':=?_) #[true,true,true,false,false,false,false] rfl rfl (by kernel_rfl) (fun _ _ _ h=>h) (Or.inl ⟨by rfl,?_⟩) ?_ ?_
  rotate_left;(intro w';go_simp;with_reducible rfl);rotate_left;(simp only [Act.put,List.setIfInBounds_toArray,List.set_cons_zero,List.set_cons_succ,i64_w,i32_w];rfl)
  refine pure_ (i:=3) (N:=some 40) (v:=?_) (a':=?_) #[true,true,true,true,false,false,false] rfl rfl (by kernel_rfl) (fun _ _ _ h=>h) (Or.inl ⟨by rfl,?_⟩) ?_ ?_
  rotate_left;(intro w';go_simp;with_reducible rfl);rotate_left;(simp only [Act.put,List.setIfInBounds_toArray,List.set_cons_zero,List.set_cons_succ,i64_w,i32_w];rfl)
  refine pure_ (i:=4) (N:=some 41) (v:=?_) (a':=?_) #[true,true,true,true,true,false,false] rfl rfl (by kernel_rfl) (fun _ _ _ h=>h) (Or.inl ⟨by rfl,?_⟩) ?_ ?_
  rotate_left;(intro w';go_simp;with_reducible rfl);rotate_left;(simp only [Act.put,List.setIfInBounds_toArray,List.set_cons_zero,List.set_cons_succ,i64_w,i32_w];rfl)
  refine one_ (i:=5) (N:=none) #[true,true,true,true,true,true,false] rfl rfl (by kernel_rfl) (by decide) (fun K hK=>?_)
  refine skip_ (w1:=?_) (by rfl) rfl ?_ ?_
  rotate_left
  ·go_simp
   rfl
  refine hK.out _ _ trivial (fun hHeld=>?_)
  clear hK K
  refine pure_ (i:=6) (N:=some 7) (v:=?_) (a':=?_) #[true,true,true,true,true,true,true] rfl rfl (by kernel_rfl) (fun _ _ _ h=>h) (Or.inl ⟨by rfl,?_⟩) ?_ ?_
  rotate_left;(intro w';go_simp;with_reducible rfl);rotate_left;(simp only [Act.put,List.setIfInBounds_toArray,List.set_cons_zero,List.set_cons_succ,i64_w,i32_w];rfl)
  refine done_ (by kernel_rfl) ?_
  (try clear hHeld)
  obtain ⟨w4,hw4⟩ : ∃ W,W=(w3.setCell ⟨w.heap.size + 1,0,none⟩ (.int .i64 (wrap64 n))).drew:=⟨_,rfl⟩
  have hR2 : RS w (wrap64 n) ⟨#[]⟩ w4:=by rw [hw4];exact HR.out.set0.drew
  rw [← hw4]
  have HR4:=Aside0.mk hR2
  have HP:=Aside0.mk (show value_Read.p 2 s=none by unfold value_Read.p;rw [if_neg (by decide),if_pos rfl,hp])
  clear hp hw4 hR2 HR c0 f0
  obtain rfl:=read_none HF.out HP.out
  clear HF HP
  have c00 : w4.cell? ⟨w.heap.size,0,none⟩=some (.int .i64 0):=by rw [blk_cell HR4.out.b0];rfl
  have c01 : w4.cell? ⟨w.heap.size,1,none⟩=some (.string ⟨#[]⟩):=by rw [blk_cell HR4.out.b0];rfl
  have c10 : w4.cell? ⟨w.heap.size + 1,0,none⟩=some (.int .i64 (wrap64 n)):=by rw [blk_cell HR4.out.b1];rfl
  have c11 : w4.cell? ⟨w.heap.size + 1,1,none⟩=some (.string ⟨#[]⟩):=by rw [blk_cell HR4.out.b1];rfl
  have f00 : w4.frozen? ⟨w.heap.size,0,none⟩=false:=blk_frozen HR4.out.b0 0
  have f01 : w4.frozen? ⟨w.heap.size,1,none⟩=false:=blk_frozen HR4.out.b0 1
  go_wp2
  refine bodyPost_ret (results_ct rfl _ _ w.heap.size 23 #[.int .i64 0,.string ⟨#[]⟩] (0,0) _ rfl (by refine blk_put (cs:=#[.int .i64 0,.string ⟨#[]⟩]) ?_ 1 _ rfl;refine blk_put (cs:=#[.int .i64 0,.string ⟨#[]⟩]) ?_ 0 _ rfl;exact HR4.out.b0) Tryd.underlying23 rfl (by kernel_rfl)) rfl ?_
  exact ⟨rfl,(HR4.out.below.setCell (p:=⟨w.heap.size,0,none⟩) (Nat.le_refl _) _).setCell (p:=⟨w.heap.size,1,none⟩) (Nat.le_refl _) _⟩
 ·skip
  rw [hp] at he
  obtain ⟨n,N,rfl⟩:=he
  go_wp2
  refine start_ (n:=7) (S:=fun w'=>True) (ds:=[]) #[false,false,false,false,false,false,false] (by kernel_rfl) rfl rfl trivial (fun hHeld=>?_)
  refine pure_ (i:=0) (N:=some 37) (v:=?_) (a':=?_) #[true,false,false,false,false,false,false] rfl rfl (by kernel_rfl) (fun _ _ _ h=>h) (Or.inl ⟨by rfl,?_⟩) ?_ ?_
  rotate_left;(intro w';go_simp;with_reducible rfl);rotate_left;(simp only [Act.put,List.setIfInBounds_toArray,List.set_cons_zero,List.set_cons_succ,i64_w,i32_w];rfl)
  refine pure_ (i:=1) (N:=some 38) (v:=?_) (a':=?_) #[true,true,false,false,false,false,false] rfl rfl (by kernel_rfl) (fun _ _ _ h=>h) (Or.inl ⟨by rfl,?_⟩) ?_ ?_
  rotate_left;(intro w';go_simp;with_reducible rfl);rotate_left;(simp only [Act.put,List.setIfInBounds_toArray,List.set_cons_zero,List.set_cons_succ,i64_w,i32_w];rfl)
  refine pure_ (i:=2) (N:=some 39) (v:=?_) (a':=?_) #[true,true,true,false,false,false,false] rfl rfl (by kernel_rfl) (fun _ _ _ h=>h) (Or.inl ⟨by rfl,?_⟩) ?_ ?_
  rotate_left;(intro w';go_simp;with_reducible rfl);rotate_left;(simp only [Act.put,List.setIfInBounds_toArray,List.set_cons_zero,List.set_cons_succ,i64_w,i32_w];rfl)
  refine pure_ (i:=3) (N:=some 40) (v:=?_) (a':=?_) #[true,true,true,true,false,false,false] rfl rfl (by kernel_rfl) (fun _ _ _ h=>h) (Or.inl ⟨by rfl,?_⟩) ?_ ?_
  rotate_left;(intro w';go_simp;with_reducible rfl);rotate_left;(simp only [Act.put,List.setIfInBounds_toArray,List.set_cons_zero,List.set_cons_succ,i64_w,i32_w];rfl)
  refine pure_ (i:=4) (N:=some 41) (v:=?_) (a':=?_) #[true,true,true,true,true,false,false] rfl rfl (by kernel_rfl) (fun _ _ _ h=>h) (Or.inl ⟨by rfl,?_⟩) ?_ ?_
  rotate_left;(intro w';go_simp;with_reducible rfl);rotate_left;(simp only [Act.put,List.setIfInBounds_toArray,List.set_cons_zero,List.set_cons_succ,i64_w,i32_w];rfl)
  refine one_ (i:=5) (N:=none) #[true,true,true,true,true,true,false] rfl rfl (by kernel_rfl) (by decide) (fun K hK=>?_)
  refine skip_ (w1:=?_) (by rfl) rfl ?_ ?_
  rotate_left
  ·go_simp
   rfl
  refine hK.out _ _ trivial (fun hHeld=>?_)
  clear hK K
  refine pure_ (i:=6) (N:=some 7) (v:=?_) (a':=?_) #[true,true,true,true,true,true,true] rfl rfl (by kernel_rfl) (fun _ _ _ h=>h) (Or.inl ⟨by rfl,?_⟩) ?_ ?_
  rotate_left;(intro w';go_simp;with_reducible rfl);rotate_left;(simp only [Act.put,List.setIfInBounds_toArray,List.set_cons_zero,List.set_cons_succ,i64_w,i32_w];rfl)
  refine done_ (by kernel_rfl) ?_
  (try clear hHeld)
  obtain ⟨w4,hw4⟩ : ∃ W,W=(w3.setCell ⟨w.heap.size + 1,0,none⟩ (.int .i64 (wrap64 n))).drew:=⟨_,rfl⟩
  have hR2 : RS w (wrap64 n) ⟨#[]⟩ w4:=by rw [hw4];exact HR.out.set0.drew
  rw [← hw4]
  have HR4:=Aside0.mk hR2
  have HP:=Aside0.mk (show value_Read.p 2 s=none by unfold value_Read.p;rw [if_neg (by decide),if_pos rfl,hp])
  clear hp hw4 hR2 HR c0 f0
  obtain rfl:=read_none HF.out HP.out
  clear HF HP
  have c00 : w4.cell? ⟨w.heap.size,0,none⟩=some (.int .i64 0):=by rw [blk_cell HR4.out.b0];rfl
  have c01 : w4.cell? ⟨w.heap.size,1,none⟩=some (.string ⟨#[]⟩):=by rw [blk_cell HR4.out.b0];rfl
  have c10 : w4.cell? ⟨w.heap.size + 1,0,none⟩=some (.int .i64 (wrap64 n)):=by rw [blk_cell HR4.out.b1];rfl
  have c11 : w4.cell? ⟨w.heap.size + 1,1,none⟩=some (.string ⟨#[]⟩):=by rw [blk_cell HR4.out.b1];rfl
  have f00 : w4.frozen? ⟨w.heap.size,0,none⟩=false:=blk_frozen HR4.out.b0 0
  have f01 : w4.frozen? ⟨w.heap.size,1,none⟩=false:=blk_frozen HR4.out.b0 1
  go_wp2
  refine bodyPost_ret (results_ct rfl _ _ w.heap.size 23 #[.int .i64 0,.string ⟨#[]⟩] (0,0) _ rfl (by refine blk_put (cs:=#[.int .i64 0,.string ⟨#[]⟩]) ?_ 1 _ rfl;refine blk_put (cs:=#[.int .i64 0,.string ⟨#[]⟩]) ?_ 0 _ rfl;exact HR4.out.b0) Tryd.underlying23 rfl (by kernel_rfl)) rfl ?_
  exact ⟨rfl,(HR4.out.below.setCell (p:=⟨w.heap.size,0,none⟩) (Nat.le_refl _) _).setCell (p:=⟨w.heap.size,1,none⟩) (Nat.le_refl _) _⟩
set_option maxHeartbeats 4000000 in
set_option maxRecDepth 100000 in
theorem read_text (t : Int) (s : ByteArray) (w : World) (hs : s.size≤1000) (htab : TabsE w) (r : Int × ByteArray × Bool) (h : value_Read.f t s=some r) (h1 : t≠1) (h2 : t≠2) :
  Calls Tryd.prog 15 #[.int .i64 t,.string s] w fun e w'=>e=.returned (.tuple #[.agg #[.int .i64 r.1,.string r.2.1],.bool r.2.2])∧Below w.heap.size w w':=by
 have hu23:=Tryd.underlying23
 have H0:=Aside0.mk (RS.start w)
 have HT:=Aside0.mk htab
 have HS:=Aside0.mk hs
 have HF:=Aside0.mk h
 have HN:=Aside0.mk (And.intro h1 h2)
 have d1 : (t == 1)=false:=by rw [beq_eq_false_iff_ne];exact h1
 have d2 : (t == 2)=false:=by rw [beq_eq_false_iff_ne];exact h2
 clear htab hs h h1 h2
 go_enter Tryd.func15,Tryd.ntmps15
 go_wp2_with (go_at_call 32;fail)
 refine (text_any s _ HS.out ((HT.out.on H0.out.below).syn)).mono ?_
 rintro e w3 ⟨rfl,hb3⟩
 have hR:=H0.out.on hb3
 have HR:=Aside0.mk hR
 clear hR hb3 H0
 have f1 : w3.frozen? ⟨w.heap.size + 1,1,none⟩=false:=blk_frozen HR.out.b1 1
 have c00 : w3.cell? ⟨w.heap.size,0,none⟩=some (.int .i64 0):=by rw [blk_cell HR.out.b0];rfl
 have c01 : w3.cell? ⟨w.heap.size,1,none⟩=some (.string ⟨#[]⟩):=by rw [blk_cell HR.out.b0];rfl
 have c10 : w3.cell? ⟨w.heap.size + 1,0,none⟩=some (.int .i64 0):=by rw [blk_cell HR.out.b1];rfl
 have c11 : w3.cell? ⟨w.heap.size + 1,1,none⟩=some (.string ⟨#[]⟩):=by rw [blk_cell HR.out.b1];rfl
 have f00 : w3.frozen? ⟨w.heap.size,0,none⟩=false:=blk_frozen HR.out.b0 0
 have f01 : w3.frozen? ⟨w.heap.size,1,none⟩=false:=blk_frozen HR.out.b0 1
 have HP:=Aside0.mk (show value_Read.p t s=if (textL s.data.toList).2=true then some (0,⟨(textL s.data.toList).1.toArray⟩) else none by unfold value_Read.p;rw [if_neg HN.out.1,if_neg HN.out.2])
 obtain ⟨l,hl⟩ : ∃ l,l=(textL s.data.toList).1:=⟨_,rfl⟩
 obtain ⟨ok,hok⟩ : ∃ b,b=(textL s.data.toList).2:=⟨_,rfl⟩
 rw [← hl,← hok] at HP ⊢
 clear hl hok
 have HR4:=Aside0.mk (HR.out.set1 : RS w 0 ⟨l.toArray⟩ (w3.setCell ⟨w.heap.size + 1,1,none⟩ (.string ⟨l.toArray⟩)))
 cases ok with
 | true =>
  replace HP:=Aside0.mk (show value_Read.p t s=some (0,⟨l.toArray⟩) from HP.out)
  have HX:=Aside0.mk (show ∃ rt,value_Text.f t 0 ⟨l.toArray⟩=some rt from text_text t _ HN.out.1 HN.out.2)
  obtain ⟨rt,hrt⟩:=HX.out
  have HRT:=Aside0.mk hrt
  clear hrt HX
  by_cases hz : s.size=0
  ·have hem:=empty_of s hz
   obtain rfl:=read_no HF.out HP.out (fun h=>h.1 hz)
   clear hz HF HP HRT
   go_wp2
   refine bodyPost_ret (results_ct rfl _ _ w.heap.size 23 #[.int .i64 0,.string ⟨#[]⟩] (0,0) _ rfl (by refine blk_put (cs:=#[.int .i64 0,.string ⟨#[]⟩]) ?_ 1 _ rfl;refine blk_put (cs:=#[.int .i64 0,.string ⟨#[]⟩]) ?_ 0 _ rfl;exact HR4.out.b0) Tryd.underlying23 rfl (by kernel_rfl)) rfl ?_
   exact ⟨rfl,(HR4.out.below.setCell (p:=⟨w.heap.size,0,none⟩) (Nat.le_refl _) _).setCell (p:=⟨w.heap.size,1,none⟩) (Nat.le_refl _) _⟩
  ·have hem:=empty_not s hz
   go_wp2_with (go_at_call 13;fail)
   refine (value_Text.calls _ _ _ rt _ HRT.out (HT.out.t.on HR4.out.below)).mono ?_
   rintro e w5 ⟨rfl,hb5⟩
   have hR5:=HR4.out.on hb5
   have HR5:=Aside0.mk hR5
   clear hR5 hb5 c00 c01 c10 c11 f00 f01 HR4
   have c00 : w5.cell? ⟨w.heap.size,0,none⟩=some (.int .i64 0):=by rw [blk_cell HR5.out.b0];rfl
   have c01 : w5.cell? ⟨w.heap.size,1,none⟩=some (.string ⟨#[]⟩):=by rw [blk_cell HR5.out.b0];rfl
   have c10 : w5.cell? ⟨w.heap.size + 1,0,none⟩=some (.int .i64 0):=by rw [blk_cell HR5.out.b1];rfl
   have c11 : w5.cell? ⟨w.heap.size + 1,1,none⟩=some (.string ⟨l.toArray⟩):=by rw [blk_cell HR5.out.b1];rfl
   have f00 : w5.frozen? ⟨w.heap.size,0,none⟩=false:=blk_frozen HR5.out.b0 0
   have f01 : w5.frozen? ⟨w.heap.size,1,none⟩=false:=blk_frozen HR5.out.b0 1
   by_cases hq : rt=s
   ·subst hq
    obtain rfl:=read_yes HF.out HP.out hz HRT.out
    have hn : (!(rt.toList == rt.toList))=false:=by simp
    clear hz HF HP HRT
    go_wp2
    refine bodyPost_ret (results_ct rfl _ _ w.heap.size 23 #[.int .i64 0,.string ⟨l.toArray⟩] (0,0) _ rfl (by refine blk_put (cs:=#[.int .i64 0,.string ⟨#[]⟩]) ?_ 1 _ rfl;refine blk_put (cs:=#[.int .i64 0,.string ⟨#[]⟩]) ?_ 0 _ rfl;exact HR5.out.b0) Tryd.underlying23 rfl (by kernel_rfl)) rfl ?_
    exact ⟨rfl,(HR5.out.below.setCell (p:=⟨w.heap.size,0,none⟩) (Nat.le_refl _) _).setCell (p:=⟨w.heap.size,1,none⟩) (Nat.le_refl _) _⟩
   ·obtain rfl:=read_no HF.out HP.out (fun h=>hq (Option.some.inj (HRT.out.symm.trans h.2)))
    have hn : (!(rt.toList == s.toList))=true:=by
     rw [ByteArray.toList_eq,ByteArray.toList_eq]
     have : rt.data.toList≠s.data.toList:=fun e=>hq (ByteArray.ext (Array.ext' e))
     simpa using this
    clear hz hq HF HP HRT
    go_wp2
    refine bodyPost_ret (results_ct rfl _ _ w.heap.size 23 #[.int .i64 0,.string ⟨#[]⟩] (0,0) _ rfl (by refine blk_put (cs:=#[.int .i64 0,.string ⟨#[]⟩]) ?_ 1 _ rfl;refine blk_put (cs:=#[.int .i64 0,.string ⟨#[]⟩]) ?_ 0 _ rfl;exact HR5.out.b0) Tryd.underlying23 rfl (by kernel_rfl)) rfl ?_
    exact ⟨rfl,(HR5.out.below.setCell (p:=⟨w.heap.size,0,none⟩) (Nat.le_refl _) _).setCell (p:=⟨w.heap.size,1,none⟩) (Nat.le_refl _) _⟩
 | false =>
  replace HP:=Aside0.mk (show value_Read.p t s=none from HP.out)
  obtain rfl:=read_none HF.out HP.out
  clear HF HP
  go_wp2
  refine bodyPost_ret (results_ct rfl _ _ w.heap.size 23 #[.int .i64 0,.string ⟨#[]⟩] (0,0) _ rfl (by refine blk_put (cs:=#[.int .i64 0,.string ⟨#[]⟩]) ?_ 1 _ rfl;refine blk_put (cs:=#[.int .i64 0,.string ⟨#[]⟩]) ?_ 0 _ rfl;exact HR4.out.b0) Tryd.underlying23 rfl (by kernel_rfl)) rfl ?_
  exact ⟨rfl,(HR4.out.below.setCell (p:=⟨w.heap.size,0,none⟩) (Nat.le_refl _) _).setCell (p:=⟨w.heap.size,1,none⟩) (Nat.le_refl _) _⟩
theorem value_Read.calls (t : Int) (s : ByteArray) (r0 : Int) (r1 : ByteArray) (r2 : Bool) (w : World) (h : value_Read.f t s=some (r0,r1,r2)) (htab_ : TabsE w) :
  Calls Tryd.prog 15 #[.int .i64 t,.string s] w fun e w'=>e=.returned (.tuple #[.agg #[.int .i64 r0,.string r1],.bool r2])∧Below w.heap.size w w':=by
 have hs : s.size≤1000:=by
  unfold value_Read.f at h
  split at h
  ·assumption
  ·cases h
 by_cases h1 : t=1
 ·subst h1;exact read_int s w hs htab_ _ h
 ·by_cases h2 : t=2
  ·subst h2;exact read_uint s w hs htab_ _ h
  ·exact read_text t s w hs htab_ _ h h1 h2
end Go.Proofs.YtifpjhghbafcjaaDoor.P

