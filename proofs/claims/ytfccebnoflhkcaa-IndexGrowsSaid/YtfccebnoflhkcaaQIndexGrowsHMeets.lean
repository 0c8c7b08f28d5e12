/- Texts of IndexGrows. Merged: HMeets. -/
import Derived.Test.YtfccebnoflhkcaaQIndexGrowsHMeetsB
/- index.Meets, by hand: which granules may have rows of a range. -/
namespace Go.Proofs.Ytfccebnoflhkcaa.P
open Go.RowKit Go.Proofs.YtfccebnoflhkcaaW.PrintWords Go.Proofs.YtfccebnoflhkcaaW.PrintLast Go.Proofs.YtfccebnoflhkcaaW.PrintMore
set_option linter.unusedVariables false
set_option linter.unusedSimpArgs false
def beginsV (T : List Int) (a : Int) (l : List (List XV)) (hl : Bool) (lo : List XV) : Nat→Bool:=fun i=>decide (i + 1=l.length) || (!hl || decide (cmpRow T a (rdR l (i + 1 : Nat)) lo ≥ 0))
def aboveV (T : List Int) (a : Int) (l : List (List XV)) (hh : Bool) (hi : List XV) : Nat→Bool:=fun i=>hh && decide (cmpRow T a (rdR l i) hi > 0)
def emptyV (T : List Int) (a : Int) (hl hh : Bool) (lo hi : List XV) : Bool:=hl && (hh && decide (cmpRow T a lo hi > 0))
def meetsV (T : List Int) (a : Int) (l : List (List XV)) (hl hh : Bool) (lo hi : List XV) : Int × Int :=
 if (bsearch (aboveV T a l hh hi) l.length 0 l.length≤bsearch (beginsV T a l hl lo) l.length 0 l.length ∨ emptyV T a hl hh lo hi=true) then (0,0)
 else ((bsearch (beginsV T a l hl lo) l.length 0 l.length : Nat),(bsearch (aboveV T a l hh hi) l.length 0 l.length : Nat))
def index_Meets.f (k : Nat) (T : List Int) (a b d : Int) (l : List (List XV)) (hl hh : Bool) (lo hi : List XV) : Option (Int × Int):=if T.length≤1000000000∧l.length≤1000000000 then some (meetsV T a l hl hh lo hi) else none
theorem index_Meets.mono : ∀ T a b d l hl hh lo hi k,LeO (index_Meets.f k T a b d l hl hh lo hi) (index_Meets.f (k + 1) T a b d l hl hh lo hi):=fun _ _ _ _ _ _ _ _ _ _=>LeO.refl _
theorem empty_ev (T : List Int) (a b d : Int) (hl hh : Bool) (lo hi : List XV) (hT8 : T.length≤1000000000) : Ev (fun k=>index_Empty.f k T a b d hl hh lo hi) (emptyV T a hl hh lo hi):=by
 unfold emptyV
 cases hl
 ·exact ⟨0,by intro k hk;rfl⟩
 cases hh
 ·exact ⟨0,by intro k hk;rfl⟩
 obtain ⟨k0,hk0⟩:=scmp_ev T a b d lo hi hT8
 refine ⟨k0,fun k hk=>?_⟩
 have h:=hk0 k hk
 dsimp only at h
 show (if true=true then (if true=true then ((schema_Compare.f k T a b d lo hi).bind fun t=>some (decide (t > 0))) else some false) else some false)=_
 rw [if_pos rfl,if_pos rfl,h]
 rfl
set_option maxHeartbeats 4000000 in
set_option maxRecDepth 100000 in
theorem index_Meets.calls (k : Nat) (A : Option Addr) (c : Nat) (T : List Int) (a b d : Int) (B : Option Addr) (e : Nat) (l : List (List XV)) (hl hh : Bool) (AL : Option Addr) (cL : Nat) (lo : List XV) (AH : Option Addr) (cH : Nat) (hi : List XV) (r1 r2 : Int) (w : World)
  (hT : Kd.C (Kd.int .i64) w A T.length T) (hc : T.length≤c) (hM : Kd.C (Kd.slice 44 k44) w B l.length l) (he : l.length≤e) (hL : Kd.C k44 w AL lo.length lo) (hcL : lo.length≤cL) (hH : Kd.C k44 w AH hi.length hi) (hcH : hi.length≤cH)
  (h : index_Meets.f k T a b d l hl hh lo hi=some (r1,r2)) :
  Calls Try.prog 15 #[.agg #[.slice A T.length c,.int .i64 a,.int .i64 b,.int .i64 d],.slice B l.length e,.agg #[.bool hl,.bool hh,.slice AL lo.length cL,.slice AH hi.length cH]] w fun e w'=>e=.returned (.tuple #[.int .i64 r1,.int .i64 r2])∧Below w.heap.size w w':=by
 unfold index_Meets.f at h
 split at h
 case isFalse=>exact absurd h (by simp)
 case isTrue hn =>
 injection h with h
 have HW:=Aside0.mk h
 have HN:=Aside0.mk hn
 have HT:=Aside0.mk hT
 have HM:=Aside0.mk hM
 have HL:=Aside0.mk hL
 have HH:=Aside0.mk hH
 have HC:=Aside0.mk (And.intro hc (And.intro he (And.intro hcL hcH)))
 clear h hn hT hM hL hH hc he hcL hcH
 have HB:=Aside0.mk (Below.refl w.heap.size w)
 go_enter Try.func15,Try.ntmps15
 go_wp2_with (first|((with_reducible refine gate_dst (N:=3) rfl ?_);refine box_event ?hg (N:=3) ?hd (cs:=#[.slice A T.length c,.int .i64 a,.int .i64 b,.int .i64 d]) (t:=33) ?hr ?_;(case hd=>rfl);(case hg=>rfl);(case hr=>first|(go_simp;done)|(go_simp;rfl));intro gs hg w4 hbox hb;have nb_:=Aside0.mk (below_step HB.out hb);have nh_:=Aside0.mk hbox;have ng_:=Aside0.mk ((by rw [hg];exact below_size HB.out) : w.heap.size≤gs);clear HB;have HB:=nb_;have BKgs:=nh_;have GEgs:=ng_;clear nb_ nh_ ng_;clear hb hbox hg)|((with_reducible refine gate_dst (N:=4) rfl ?_);refine box_event ?hg (N:=4) ?hd (cs:=#[.slice B l.length e]) (t:=25) ?hr ?_;(case hd=>rfl);(case hg=>rfl);(case hr=>first|(go_simp;done)|(go_simp;rfl));intro gm hg w4 hbox hb;have n0_:=Aside0.mk (blk_below BKgs.out hb);have nb_:=Aside0.mk (below_step HB.out hb);have nh_:=Aside0.mk hbox;have ng_:=Aside0.mk ((by rw [hg];exact below_size HB.out) : w.heap.size≤gm);clear HB;have HB:=nb_;have BKgm:=nh_;have GEgm:=ng_;clear nb_ nh_ ng_;clear BKgs;have BKgs:=n0_;clear n0_;clear hb hbox hg)|((with_reducible refine gate_dst (N:=5) rfl ?_);refine box_event ?hg (N:=5) ?hd (cs:=#[.bool hl,.bool hh,.slice AL lo.length cL,.slice AH hi.length cH]) (t:=29) ?hr ?_;(case hd=>rfl);(case hg=>rfl);(case hr=>first|(go_simp;done)|(go_simp;rfl));intro gr hg w4 hbox hb;have n0_:=Aside0.mk (blk_below BKgs.out hb);have n1_:=Aside0.mk (blk_below BKgm.out hb);have nb_:=Aside0.mk (below_step HB.out hb);have nh_:=Aside0.mk hbox;have ng_:=Aside0.mk ((by rw [hg];exact below_size HB.out) : w.heap.size≤gr);clear HB;have HB:=nb_;have BKgr:=nh_;have GEgr:=ng_;clear nb_ nh_ ng_;clear BKgs;have BKgs:=n0_;clear n0_;clear BKgm;have BKgm:=n1_;clear n1_;clear hb hbox hg;have h8 : w4.cell? ⟨gm,0,none⟩=some (.slice B l.length e):=(blk_cell BKgm.out 0).trans rfl))
 clear h8
 obtain ⟨w5,hw5⟩ : ∃ w5,w5=w4.alloc (Obj.cells #[Value.int IntKind.i64 ↑l.length] 3):=⟨_,rfl⟩
 obtain ⟨gn,hgn⟩ : ∃ gn,gn=w4.heap.size:=⟨_,rfl⟩
 rw [← hw5,← hgn]
 have hB5 : Below w.heap.size w w5:=by rw [hw5];exact below_alloc HB.out _
 have h10 : w5.cell? ⟨gn,0,none⟩=some (.int .i64 l.length):=by rw [hw5,hgn];exact (blk_cell (blk_new w4 _) 0).trans rfl
 have hE : MEnv w5 gs gm gr A c T a b d B e l hl hh AL cL lo AH cH hi:=⟨by rw [hw5];exact blk_alloc BKgs.out _,by rw [hw5];exact blk_alloc BKgm.out _,by rw [hw5];exact blk_alloc BKgr.out _,Kd.C_below HT.out hB5,HC.out.1,Kd.C_below HM.out hB5,Kd.C_below HL.out hB5,HC.out.2.2.1,Kd.C_below HH.out hB5,HC.out.2.2.2⟩
 obtain ⟨F,hF⟩ : ∃ F,F=bsearch (beginsV T a l hl lo) l.length 0 l.length:=⟨_,rfl⟩
 obtain ⟨G,hG⟩ : ∃ G,G=bsearch (aboveV T a l hh hi) l.length 0 l.length:=⟨_,rfl⟩
 have hSF : ∀ W,Below w5.heap.size w5 W→Calls Try.prog 26 #[.int .i64 l.length,.func (.func 25) #[] #[.pointer (some ⟨gn,0,none⟩),.pointer (some ⟨gr,0,none⟩),.pointer (some ⟨gs,0,none⟩),.pointer (some ⟨gm,0,none⟩)]] W fun e w'=>e=.returned (.int .i64 (F : Nat))∧Below W.heap.size W w':=fun W hb=>by
  rw [hF];exact searchBegins_any gn gs gm gr A c T a b d B e l hl hh AL cL lo AH cH hi W (hE.below hb) ((hb.cell (World.block_lt_of_cell? w5 _ h10)).trans h10) HN.out.1 HN.out.2
 have hSG : ∀ W,Below w5.heap.size w5 W→Calls Try.prog 26 #[.int .i64 l.length,.func (.func 24) #[] #[.pointer (some ⟨gr,0,none⟩),.pointer (some ⟨gs,0,none⟩),.pointer (some ⟨gm,0,none⟩)]] W fun e w'=>e=.returned (.int .i64 (G : Nat))∧Below W.heap.size W w':=fun W hb=>by
  rw [hG];exact searchAbove_any gs gm gr A c T a b d B e l hl hh AL cL lo AH cH hi W (hE.below hb) HN.out.1 HN.out.2
 obtain ⟨X,hX⟩ : ∃ X,X=emptyV T a hl hh lo hi:=⟨_,rfl⟩
 obtain ⟨kc,hkc⟩:=(empty_ev T a b d hl hh lo hi HN.out.1).rounds
 have hSX : ∀ W,Below w5.heap.size w5 W→Calls Try.prog 17 #[.agg #[.slice A T.length c,.int .i64 a,.int .i64 b,.int .i64 d],.agg #[.bool hl,.bool hh,.slice AL lo.length cL,.slice AH hi.length cH]] W fun e w'=>e=.returned (.bool X)∧Below W.heap.size W w':=fun W hb=>by
  rw [hX];exact index_Empty.calls kc A c T a b d hl hh AL cL lo AH cH hi _ W (Kd.C_below hE.hT hb) hE.hc (Kd.C_below hE.hL hb) hE.hcL (Kd.C_below hE.hH hb) hE.hcH hkc
 have hr:=HW.out
 unfold meetsV at hr
 rw [← hF,← hG,← hX] at hr
 have HR:=Aside0.mk hr
 have HE:=Aside0.mk hE
 have SF:=Aside0.mk hSF
 have SG:=Aside0.mk hSG
 have SX:=Aside0.mk hSX
 have HB5:=Aside0.mk hB5
 have HD:=Aside0.mk (below_drew1 (Below.refl w5.heap.size w5))
 clear hr hE hSF hSG hSX hB5 hF hG hX hkc HB BKgs BKgm BKgr hw5 hgn HT HM HL HH HC HW
 refine start_ (n:=8) (S:=fun w'=>w'.cell? ⟨gn,0,none⟩=some (.int .i64 l.length)) (ds:=[]) #[false,false,false,false,false,false,false,false] (by kernel_rfl) rfl rfl (((HD.out.cell (World.block_lt_of_cell? w5 _ h10)).trans h10)) (fun hHeld=>?_)
 refine pure_ (i:=1) (N:=some 16) (v:=?_) (a':=?_) #[false,true,false,false,false,false,false,false] rfl rfl (by kernel_rfl) (fun _ _ _ h=>h) (Or.inl ⟨by rfl,?_⟩) ?_ ?_
 rotate_left;(intro w';go_simp;with_reducible rfl);rotate_left;(simp only [Act.put,List.setIfInBounds_toArray,List.set_cons_zero,List.set_cons_succ,i64_w,i32_w];rfl)
 refine pure_ (i:=4) (N:=some 19) (v:=?_) (a':=?_) #[false,true,false,false,true,false,false,false] rfl rfl (by kernel_rfl) (fun _ _ _ h=>h) (Or.inl ⟨by rfl,?_⟩) ?_ ?_
 rotate_left;(intro w';go_simp;with_reducible rfl);rotate_left;(simp only [Act.put,List.setIfInBounds_toArray,List.set_cons_zero,List.set_cons_succ,i64_w,i32_w];rfl)
 refine take_ (i:=0) (N:=some 15) (v:=?_) (a':=?_) #[true,true,false,false,true,false,false,false] rfl rfl (by kernel_rfl) (fun _ _ _ h=>h) (Or.inl ⟨by rfl,?_⟩) hHeld ?_ ?_
 rotate_left
 ·intro w' s0
  go_simp
  with_reducible rfl
 rotate_left
 ·simp only [Act.put,List.setIfInBounds_toArray,List.set_cons_zero,List.set_cons_succ,i64_w,i32_w]
  rfl
 refine take_ (i:=3) (N:=some 18) (v:=?_) (a':=?_) #[true,true,false,true,true,false,false,false] rfl rfl (by kernel_rfl) (fun _ _ _ h=>h) (Or.inl ⟨by rfl,?_⟩) hHeld ?_ ?_
 rotate_left
 ·intro w' s0
  go_simp
  with_reducible rfl
 rotate_left
 ·simp only [Act.put,List.setIfInBounds_toArray,List.set_cons_zero,List.set_cons_succ,i64_w,i32_w]
  rfl
 refine one_ (i:=2) (N:=some 17) #[true,true,true,true,true,false,false,false] rfl rfl (by kernel_rfl) (by decide) (fun K hK=>?_)
 refine goes_ Try.func26 (by kernel_rfl) rfl #[.int .i64 l.length,.func (.func 25) #[] #[.pointer (some ⟨gn,0,none⟩),.pointer (some ⟨gr,0,none⟩),.pointer (some ⟨gs,0,none⟩),.pointer (some ⟨gm,0,none⟩)]] (by rfl) rfl rfl (by simp only [List.map_toArray,List.map_cons,List.map_nil];rfl) ?_
 with_reducible refine (SF.out _ HD.out).mono ?_
 rintro e w3 ⟨rfl,hb⟩
 refine ⟨_,rfl,?_⟩
 have HB1:=Aside0.mk (below_step HD.out hb)
 clear hb
 refine hK.out _ _ (((HB1.out.cell (World.block_lt_of_cell? w5 _ h10)).trans h10)) (fun hHeld=>?_)
 clear hK K
 refine norm_ (a':=?_) ?_ ?_
 rotate_left
 ·show Act.put _ (some 17) _=_
  simp only [Act.put,List.setIfInBounds_toArray,List.set_cons_zero,List.set_cons_succ,i64_w,i32_w]
  rfl
 refine one_ (i:=5) (N:=some 20) #[true,true,true,true,true,true,false,false] rfl rfl (by kernel_rfl) (by decide) (fun K hK=>?_)
 refine goes_ Try.func26 (by kernel_rfl) rfl #[.int .i64 l.length,.func (.func 24) #[] #[.pointer (some ⟨gr,0,none⟩),.pointer (some ⟨gs,0,none⟩),.pointer (some ⟨gm,0,none⟩)]] (by rfl) rfl rfl (by simp only [List.map_toArray,List.map_cons,List.map_nil];rfl) ?_
 with_reducible refine (SG.out _ HB1.out).mono ?_
 rintro e w4 ⟨rfl,hb⟩
 refine ⟨_,rfl,?_⟩
 have HB2:=Aside0.mk (below_step HB1.out hb)
 clear hb
 refine hK.out _ _ (((HB2.out.cell (World.block_lt_of_cell? w5 _ h10)).trans h10)) (fun hHeld=>?_)
 clear hK K
 refine norm_ (a':=?_) ?_ ?_
 rotate_left
 ·show Act.put _ (some 20) _=_
  simp only [Act.put,List.setIfInBounds_toArray,List.set_cons_zero,List.set_cons_succ,i64_w,i32_w]
  rfl
 refine pure_ (i:=6) (N:=some 6) (v:=?_) (a':=?_) #[true,true,true,true,true,true,true,false] rfl rfl (by kernel_rfl) (fun _ _ _ h=>h) (Or.inl ⟨by rfl,?_⟩) ?_ ?_
 rotate_left;(intro w';go_simp;with_reducible rfl);rotate_left;(simp only [Act.put,List.setIfInBounds_toArray,List.set_cons_zero,List.set_cons_succ,i64_w,i32_w];rfl)
 refine pure_ (i:=7) (N:=some 7) (v:=?_) (a':=?_) #[true,true,true,true,true,true,true,true] rfl rfl (by kernel_rfl) (fun _ _ _ h=>h) (Or.inl ⟨by rfl,?_⟩) ?_ ?_
 rotate_left;(intro w';go_simp;with_reducible rfl);rotate_left;(simp only [Act.put,List.setIfInBounds_toArray,List.set_cons_zero,List.set_cons_succ,i64_w,i32_w];rfl)
 refine done_ (by kernel_rfl) ?_
 clear h10
 have k0:=Aside0.mk (blk_below HE.out.s HB2.out)
 have k1:=Aside0.mk (blk_below HE.out.r HB2.out)
 have h0 : w4.cell? ⟨gr,0,none⟩=some (.bool hl):=(blk_cell k1.out 0).trans rfl
 have h1 : w4.cell? ⟨gr,1,none⟩=some (.bool hh):=(blk_cell k1.out 1).trans rfl
 have h2 : w4.cell? ⟨gr,2,none⟩=some (.slice AL lo.length cL):=(blk_cell k1.out 2).trans rfl
 have h3 : w4.cell? ⟨gr,3,none⟩=some (.slice AH hi.length cH):=(blk_cell k1.out 3).trans rfl
 have h4 : w4.cell? ⟨gs,0,none⟩=some (.slice A T.length c):=(blk_cell k0.out 0).trans rfl
 have h5 : w4.cell? ⟨gs,1,none⟩=some (.int .i64 a):=(blk_cell k0.out 1).trans rfl
 have h6 : w4.cell? ⟨gs,2,none⟩=some (.int .i64 b):=(blk_cell k0.out 2).trans rfl
 have h7 : w4.cell? ⟨gs,3,none⟩=some (.int .i64 d):=(blk_cell k0.out 3).trans rfl
 have HZ:=Aside0.mk (below_step HB5.out HB2.out)
 by_cases hge : G≤F
 ·have c0 : decide (G≤F)=true:=decide_eq_true hge
  have hr:=HR.out
  rw [if_pos (Or.inl hge)] at hr
  injection hr with r1e r2e
  subst r1e r2e
  go_wp2
  go_ret2
  exact ⟨rfl,HZ.out⟩
 ·have c0 : decide (G≤F)=false:=decide_eq_false hge
  have hr:=HR.out
  cases X
  ·rw [if_neg (by intro h;rcases h with h|h;exact hge h;cases h)] at hr
   injection hr with r1e r2e
   subst r1e r2e
   clear hge
   go_wp2_with (go_at_call 17;refine (SX.out _ HB2.out).mono ?_;rintro e w9 ⟨rfl,hb⟩;have HY:=Aside0.mk (below_step HZ.out hb);clear hb)
   go_ret2
   exact ⟨rfl,HY.out⟩
  ·rw [if_pos (Or.inr rfl)] at hr
   injection hr with r1e r2e
   subst r1e r2e
   clear hge
   go_wp2_with (go_at_call 17;refine (SX.out _ HB2.out).mono ?_;rintro e w9 ⟨rfl,hb⟩;have HY:=Aside0.mk (below_step HZ.out hb);clear hb)
   go_ret2
   exact ⟨rfl,HY.out⟩
end Go.Proofs.Ytfccebnoflhkcaa.P

