/- Texts of OrderPlaces. Merged: HOrdA. -/
import Derived.Test.YtojbeofipedolaaQOrderPlacesXVCmp
import Derived.Test.YtojbeofipedolaaQOrderPlacesXStable
/- order.Below and order.Upto, by hand: how many rows are below a key, and up to it, by halves. -/
namespace Go.Proofs.Ytojbeofipedolaa.P
open Go.RowKit Go.Proofs.YtojbeofipedolaaW.PrintWords Go.Proofs.YtojbeofipedolaaW.PrintLast Go.Proofs.YtojbeofipedolaaW.PrintMore
set_option linter.unusedVariables false
set_option linter.unusedSimpArgs false
structure OEnv (W : World) (gs gm gk : Nat) (A : Option Addr) (c : Nat) (T : List Int) (a b d : Int) (B : Option Addr) (e : Nat) (l : List (List XV)) (AK : Option Addr) (cK : Nat) (key : List XV) : Prop where
 s : W.heap[gs]?=some (.cells #[.slice A T.length c,.int .i64 a,.int .i64 b,.int .i64 d] 31 (0,0))
 m : W.heap[gm]?=some (.cells #[.slice B l.length e] 25 (0,0))
 r : W.heap[gk]?=some (.cells #[.slice AK key.length cK] 27 (0,0))
 hT : Kd.C (Kd.int .i64) W A T.length T
 hc : T.length≤c
 hM : Kd.C (Kd.slice 41 k41) W B l.length l
 hK : Kd.C k41 W AK key.length key
 hcK : key.length≤cK
theorem OEnv.below {W W' : World} {gs gm gk : Nat} {A : Option Addr} {c : Nat} {T : List Int} {a b d : Int} {B : Option Addr} {e : Nat} {l : List (List XV)} {AK : Option Addr} {cK : Nat} {key : List XV} (h : OEnv W gs gm gk A c T a b d B e l AK cK key) (hb : Below W.heap.size W W') : OEnv W' gs gm gk A c T a b d B e l AK cK key :=
 ⟨blk_below h.s hb,blk_below h.m hb,blk_below h.r hb,Kd.C_below h.hT hb,h.hc,Kd.C_below h.hM hb,Kd.C_below h.hK hb,h.hcK⟩
set_option maxHeartbeats 4000000 in
set_option maxRecDepth 100000 in
theorem below_any (gs gm gk : Nat) (A : Option Addr) (c : Nat) (T : List Int) (a b d : Int) (B : Option Addr) (e : Nat) (l : List (List XV)) (AK : Option Addr) (cK : Nat) (key : List XV) (w : World) (hE : OEnv w gs gm gk A c T a b d B e l AK cK key) (hT8 : T.length≤1000000000) (i : Nat) (hi' : i < l.length) :
  Calls Try.prog 28 #[.int .i64 i,.pointer (some ⟨gs,0,none⟩),.pointer (some ⟨gm,0,none⟩),.pointer (some ⟨gk,0,none⟩)] w fun e w'=>e=.returned (.bool (decide (cmpRow T a (rdR l i) key ≥ 0)))∧Below w.heap.size w w':=by
 obtain ⟨kc,hkc⟩:=(scmp_ev T a b d (rdR l i) key hT8).rounds
 have HK:=Aside0.mk hkc
 clear hkc
 have h0 : w.cell? ⟨gs,0,none⟩=some (.slice A T.length c):=(blk_cell hE.s 0).trans rfl
 have h1 : w.cell? ⟨gs,1,none⟩=some (.int .i64 a):=(blk_cell hE.s 1).trans rfl
 have h2 : w.cell? ⟨gs,2,none⟩=some (.int .i64 b):=(blk_cell hE.s 2).trans rfl
 have h3 : w.cell? ⟨gs,3,none⟩=some (.int .i64 d):=(blk_cell hE.s 3).trans rfl
 have h4 : w.cell? ⟨gm,0,none⟩=some (.slice B l.length e):=(blk_cell hE.m 0).trans rfl
 have h5 : w.cell? ⟨gk,0,none⟩=some (.slice AK key.length cK):=(blk_cell hE.r 0).trans rfl
 obtain ⟨ad,A0,c0,rfl,h6,hl0,hg0⟩:=at_L5 hE.hM (i : Int) (by omega) (by omega)
 simp only [Int.toNat_natCast] at h6
 have HL:=Aside0.mk hl0
 have HG:=Aside0.mk hg0
 have HE:=Aside0.mk hE
 clear hE hl0 hg0
 have q0 : (0≤(i : Int))=True:=eq_true (by omega)
 have q1 : ((i : Int) < (l.length : Int))=True:=eq_true (by omega)
 have HD:=Aside0.mk (below_drew1 (Below.refl w.heap.size w))
 go_enter Try.func28,Try.ntmps28
 try go_wp2
 refine start_ (n:=9) (S:=fun w'=>w'.cell? ⟨gs,0,none⟩=some (.slice A T.length c)∧w'.cell? ⟨gs,1,none⟩=some (.int .i64 a)∧w'.cell? ⟨gs,2,none⟩=some (.int .i64 b)∧w'.cell? ⟨gs,3,none⟩=some (.int .i64 d)∧w'.cell? ⟨gm,0,none⟩=some (.slice (some ad) l.length e)∧w'.cell? ⟨gk,0,none⟩=some (.slice AK key.length cK)∧w'.cell? (ad.add i)=some (.slice A0 (rdR l i).length c0)) (ds:=[]) #[false,false,false,false,false,false,false,false,false] (by kernel_rfl) rfl rfl ⟨((HD.out.cell (World.block_lt_of_cell? w _ h0)).trans h0),((HD.out.cell (World.block_lt_of_cell? w _ h1)).trans h1),((HD.out.cell (World.block_lt_of_cell? w _ h2)).trans h2),((HD.out.cell (World.block_lt_of_cell? w _ h3)).trans h3),((HD.out.cell (World.block_lt_of_cell? w _ h4)).trans h4),((HD.out.cell (World.block_lt_of_cell? w _ h5)).trans h5),((HD.out.cell (World.block_lt_of_cell? w _ h6)).trans h6)⟩ (fun hHeld=>?_)
 refine pure_ (i:=2) (N:=some 8) (v:=?_) (a':=?_) #[false,false,true,false,false,false,false,false,false] rfl rfl (by kernel_rfl) (fun _ _ _ h=>h) (Or.inl ⟨by rfl,?_⟩) ?_ ?_
 rotate_left;(intro w';go_simp;with_reducible rfl);rotate_left;(simp only [Act.put,List.setIfInBounds_toArray,List.set_cons_zero,List.set_cons_succ,i64_w,i32_w];rfl)
 refine take_ (i:=0) (N:=some 6) (v:=?_) (a':=?_) #[true,false,true,false,false,false,false,false,false] rfl rfl (by kernel_rfl) (fun _ _ _ h=>h) (Or.inl ⟨by rfl,?_⟩) hHeld ?_ ?_
 rotate_left;(rintro w' ⟨s0,s1,s2,s3,s4,s5,s6⟩;go_simp;with_reducible rfl);rotate_left;(simp only [Act.put,List.setIfInBounds_toArray,List.set_cons_zero,List.set_cons_succ,i64_w,i32_w];rfl)
 refine take_ (i:=1) (N:=some 7) (v:=?_) (a':=?_) #[true,true,true,false,false,false,false,false,false] rfl rfl (by kernel_rfl) (fun _ _ _ h=>h) (Or.inl ⟨by rfl,?_⟩) hHeld ?_ ?_
 rotate_left;(rintro w' ⟨s0,s1,s2,s3,s4,s5,s6⟩;go_simp;with_reducible rfl);rotate_left;(simp only [Act.put,List.setIfInBounds_toArray,List.set_cons_zero,List.set_cons_succ,i64_w,i32_w];rfl)
 refine pure_ (i:=3) (N:=some 9) (v:=?_) (a':=?_) #[true,true,true,true,false,false,false,false,false] rfl rfl (by kernel_rfl) (fun _ _ _ h=>h) (Or.inl ⟨by rfl,?_⟩) ?_ ?_
 rotate_left;(intro w';go_simp;with_reducible rfl);rotate_left;(simp only [Act.put,List.setIfInBounds_toArray,List.set_cons_zero,List.set_cons_succ,i64_w,i32_w];rfl)
 refine take_ (i:=4) (N:=some 10) (v:=?_) (a':=?_) #[true,true,true,true,true,false,false,false,false] rfl rfl (by kernel_rfl) (fun _ _ _ h=>h) (Or.inl ⟨by rfl,?_⟩) hHeld ?_ ?_
 rotate_left;(rintro w' ⟨s0,s1,s2,s3,s4,s5,s6⟩;go_simp;with_reducible rfl);rotate_left;(simp only [Act.put,List.setIfInBounds_toArray,List.set_cons_zero,List.set_cons_succ,i64_w,i32_w];rfl)
 refine take_ (i:=5) (N:=some 11) (v:=?_) (a':=?_) #[true,true,true,true,true,true,false,false,false] rfl rfl (by kernel_rfl) (fun _ _ _ h=>h) (Or.inl ⟨by rfl,?_⟩) hHeld ?_ ?_
 rotate_left;(rintro w' ⟨s0,s1,s2,s3,s4,s5,s6⟩;go_simp;with_reducible rfl);rotate_left;(simp only [Act.put,List.setIfInBounds_toArray,List.set_cons_zero,List.set_cons_succ,i64_w,i32_w];rfl)
 refine one_ (i:=6) (N:=some 12) #[true,true,true,true,true,true,true,false,false] rfl rfl (by kernel_rfl) (by decide) (fun K hK=>?_)
 refine goes_ Try.func26 (by kernel_rfl) rfl #[.agg #[.slice A T.length c,.int .i64 a,.int .i64 b,.int .i64 d],.slice A0 (rdR l i).length c0,.slice AK key.length cK] (by rfl) rfl rfl (by simp only [List.map_toArray,List.map_cons,List.map_nil];rfl) ?_
 with_reducible refine (schema_Compare.calls kc A c T a b d A0 c0 (rdR l i) AK cK key _ _ (Kd.C_below HE.out.hT HD.out) HE.out.hc (Kd.C_below HG.out HD.out) HL.out (Kd.C_below HE.out.hK HD.out) HE.out.hcK HK.out).mono ?_
 rintro e w3 ⟨rfl,hb⟩
 refine ⟨_,rfl,?_⟩
 have HB:=Aside0.mk (below_step HD.out hb)
 clear hb
 refine hK.out _ _ ⟨((HB.out.cell (World.block_lt_of_cell? w _ h0)).trans h0),((HB.out.cell (World.block_lt_of_cell? w _ h1)).trans h1),((HB.out.cell (World.block_lt_of_cell? w _ h2)).trans h2),((HB.out.cell (World.block_lt_of_cell? w _ h3)).trans h3),((HB.out.cell (World.block_lt_of_cell? w _ h4)).trans h4),((HB.out.cell (World.block_lt_of_cell? w _ h5)).trans h5),((HB.out.cell (World.block_lt_of_cell? w _ h6)).trans h6)⟩ (fun hHeld=>?_)
 clear hK K
 refine norm_ (a':=?_) ?_ ?_
 rotate_left
 ·show Act.put _ (some 12) _=_
  simp only [Act.put,List.setIfInBounds_toArray,List.set_cons_zero,List.set_cons_succ,i64_w,i32_w]
  rfl
 refine pure_ (i:=7) (N:=some 13) (v:=?_) (a':=?_) #[true,true,true,true,true,true,true,true,false] rfl rfl (by kernel_rfl) (fun _ _ _ h=>h) (Or.inl ⟨by rfl,?_⟩) ?_ ?_
 rotate_left;(intro w';go_simp;with_reducible rfl);rotate_left;(simp only [Act.put,List.setIfInBounds_toArray,List.set_cons_zero,List.set_cons_succ,i64_w,i32_w];rfl)
 refine pure_ (i:=8) (N:=some 5) (v:=?_) (a':=?_) #[true,true,true,true,true,true,true,true,true] rfl rfl (by kernel_rfl) (fun _ _ _ h=>h) (Or.inl ⟨by rfl,?_⟩) ?_ ?_
 rotate_left;(intro w';go_simp;with_reducible rfl);rotate_left;(simp only [Act.put,List.setIfInBounds_toArray,List.set_cons_zero,List.set_cons_succ,i64_w,i32_w];rfl)
 refine done_ (by kernel_rfl) ?_
 try go_wp2
 go_ret
 exact ⟨rfl,HB.out⟩
set_option maxHeartbeats 4000000 in
set_option maxRecDepth 100000 in
theorem upto_any (gs gm gk : Nat) (A : Option Addr) (c : Nat) (T : List Int) (a b d : Int) (B : Option Addr) (e : Nat) (l : List (List XV)) (AK : Option Addr) (cK : Nat) (key : List XV) (w : World) (hE : OEnv w gs gm gk A c T a b d B e l AK cK key) (hT8 : T.length≤1000000000) (i : Nat) (hi' : i < l.length) :
  Calls Try.prog 29 #[.int .i64 i,.pointer (some ⟨gs,0,none⟩),.pointer (some ⟨gm,0,none⟩),.pointer (some ⟨gk,0,none⟩)] w fun e w'=>e=.returned (.bool (decide (cmpRow T a (rdR l i) key > 0)))∧Below w.heap.size w w':=by
 obtain ⟨kc,hkc⟩:=(scmp_ev T a b d (rdR l i) key hT8).rounds
 have HK:=Aside0.mk hkc
 clear hkc
 have h0 : w.cell? ⟨gs,0,none⟩=some (.slice A T.length c):=(blk_cell hE.s 0).trans rfl
 have h1 : w.cell? ⟨gs,1,none⟩=some (.int .i64 a):=(blk_cell hE.s 1).trans rfl
 have h2 : w.cell? ⟨gs,2,none⟩=some (.int .i64 b):=(blk_cell hE.s 2).trans rfl
 have h3 : w.cell? ⟨gs,3,none⟩=some (.int .i64 d):=(blk_cell hE.s 3).trans rfl
 have h4 : w.cell? ⟨gm,0,none⟩=some (.slice B l.length e):=(blk_cell hE.m 0).trans rfl
 have h5 : w.cell? ⟨gk,0,none⟩=some (.slice AK key.length cK):=(blk_cell hE.r 0).trans rfl
 obtain ⟨ad,A0,c0,rfl,h6,hl0,hg0⟩:=at_L5 hE.hM (i : Int) (by omega) (by omega)
 simp only [Int.toNat_natCast] at h6
 have HL:=Aside0.mk hl0
 have HG:=Aside0.mk hg0
 have HE:=Aside0.mk hE
 clear hE hl0 hg0
 have q0 : (0≤(i : Int))=True:=eq_true (by omega)
 have q1 : ((i : Int) < (l.length : Int))=True:=eq_true (by omega)
 have HD:=Aside0.mk (below_drew1 (Below.refl w.heap.size w))
 go_enter Try.func29,Try.ntmps29
 try go_wp2
 refine start_ (n:=9) (S:=fun w'=>w'.cell? ⟨gs,0,none⟩=some (.slice A T.length c)∧w'.cell? ⟨gs,1,none⟩=some (.int .i64 a)∧w'.cell? ⟨gs,2,none⟩=some (.int .i64 b)∧w'.cell? ⟨gs,3,none⟩=some (.int .i64 d)∧w'.cell? ⟨gm,0,none⟩=some (.slice (some ad) l.length e)∧w'.cell? ⟨gk,0,none⟩=some (.slice AK key.length cK)∧w'.cell? (ad.add i)=some (.slice A0 (rdR l i).length c0)) (ds:=[]) #[false,false,false,false,false,false,false,false,false] (by kernel_rfl) rfl rfl ⟨((HD.out.cell (World.block_lt_of_cell? w _ h0)).trans h0),((HD.out.cell (World.block_lt_of_cell? w _ h1)).trans h1),((HD.out.cell (World.block_lt_of_cell? w _ h2)).trans h2),((HD.out.cell (World.block_lt_of_cell? w _ h3)).trans h3),((HD.out.cell (World.block_lt_of_cell? w _ h4)).trans h4),((HD.out.cell (World.block_lt_of_cell? w _ h5)).trans h5),((HD.out.cell (World.block_lt_of_cell? w _ h6)).trans h6)⟩ (fun hHeld=>?_)
 refine pure_ (i:=2) (N:=some 8) (v:=?_) (a':=?_) #[false,false,true,false,false,false,false,false,false] rfl rfl (by kernel_rfl) (fun _ _ _ h=>h) (Or.inl ⟨by rfl,?_⟩) ?_ ?_
 rotate_left;(intro w';go_simp;with_reducible rfl);rotate_left;(simp only [Act.put,List.setIfInBounds_toArray,List.set_cons_zero,List.set_cons_succ,i64_w,i32_w];rfl)
 refine take_ (i:=0) (N:=some 6) (v:=?_) (a':=?_) #[true,false,true,false,false,false,false,false,false] rfl rfl (by kernel_rfl) (fun _ _ _ h=>h) (Or.inl ⟨by rfl,?_⟩) hHeld ?_ ?_
 rotate_left;(rintro w' ⟨s0,s1,s2,s3,s4,s5,s6⟩;go_simp;with_reducible rfl);rotate_left;(simp only [Act.put,List.setIfInBounds_toArray,List.set_cons_zero,List.set_cons_succ,i64_w,i32_w];rfl)
 refine take_ (i:=1) (N:=some 7) (v:=?_) (a':=?_) #[true,true,true,false,false,false,false,false,false] rfl rfl (by kernel_rfl) (fun _ _ _ h=>h) (Or.inl ⟨by rfl,?_⟩) hHeld ?_ ?_
 rotate_left;(rintro w' ⟨s0,s1,s2,s3,s4,s5,s6⟩;go_simp;with_reducible rfl);rotate_left;(simp only [Act.put,List.setIfInBounds_toArray,List.set_cons_zero,List.set_cons_succ,i64_w,i32_w];rfl)
 refine pure_ (i:=3) (N:=some 9) (v:=?_) (a':=?_) #[true,true,true,true,false,false,false,false,false] rfl rfl (by kernel_rfl) (fun _ _ _ h=>h) (Or.inl ⟨by rfl,?_⟩) ?_ ?_
 rotate_left;(intro w';go_simp;with_reducible rfl);rotate_left;(simp only [Act.put,List.setIfInBounds_toArray,List.set_cons_zero,List.set_cons_succ,i64_w,i32_w];rfl)
 refine take_ (i:=4) (N:=some 10) (v:=?_) (a':=?_) #[true,true,true,true,true,false,false,false,false] rfl rfl (by kernel_rfl) (fun _ _ _ h=>h) (Or.inl ⟨by rfl,?_⟩) hHeld ?_ ?_
 rotate_left;(rintro w' ⟨s0,s1,s2,s3,s4,s5,s6⟩;go_simp;with_reducible rfl);rotate_left;(simp only [Act.put,List.setIfInBounds_toArray,List.set_cons_zero,List.set_cons_succ,i64_w,i32_w];rfl)
 refine take_ (i:=5) (N:=some 11) (v:=?_) (a':=?_) #[true,true,true,true,true,true,false,false,false] rfl rfl (by kernel_rfl) (fun _ _ _ h=>h) (Or.inl ⟨by rfl,?_⟩) hHeld ?_ ?_
 rotate_left;(rintro w' ⟨s0,s1,s2,s3,s4,s5,s6⟩;go_simp;with_reducible rfl);rotate_left;(simp only [Act.put,List.setIfInBounds_toArray,List.set_cons_zero,List.set_cons_succ,i64_w,i32_w];rfl)
 refine one_ (i:=6) (N:=some 12) #[true,true,true,true,true,true,true,false,false] rfl rfl (by kernel_rfl) (by decide) (fun K hK=>?_)
 refine goes_ Try.func26 (by kernel_rfl) rfl #[.agg #[.slice A T.length c,.int .i64 a,.int .i64 b,.int .i64 d],.slice A0 (rdR l i).length c0,.slice AK key.length cK] (by rfl) rfl rfl (by simp only [List.map_toArray,List.map_cons,List.map_nil];rfl) ?_
 with_reducible refine (schema_Compare.calls kc A c T a b d A0 c0 (rdR l i) AK cK key _ _ (Kd.C_below HE.out.hT HD.out) HE.out.hc (Kd.C_below HG.out HD.out) HL.out (Kd.C_below HE.out.hK HD.out) HE.out.hcK HK.out).mono ?_
 rintro e w3 ⟨rfl,hb⟩
 refine ⟨_,rfl,?_⟩
 have HB:=Aside0.mk (below_step HD.out hb)
 clear hb
 refine hK.out _ _ ⟨((HB.out.cell (World.block_lt_of_cell? w _ h0)).trans h0),((HB.out.cell (World.block_lt_of_cell? w _ h1)).trans h1),((HB.out.cell (World.block_lt_of_cell? w _ h2)).trans h2),((HB.out.cell (World.block_lt_of_cell? w _ h3)).trans h3),((HB.out.cell (World.block_lt_of_cell? w _ h4)).trans h4),((HB.out.cell (World.block_lt_of_cell? w _ h5)).trans h5),((HB.out.cell (World.block_lt_of_cell? w _ h6)).trans h6)⟩ (fun hHeld=>?_)
 clear hK K
 refine norm_ (a':=?_) ?_ ?_
 rotate_left
 ·show Act.put _ (some 12) _=_
  simp only [Act.put,List.setIfInBounds_toArray,List.set_cons_zero,List.set_cons_succ,i64_w,i32_w]
  rfl
 refine pure_ (i:=7) (N:=some 13) (v:=?_) (a':=?_) #[true,true,true,true,true,true,true,true,false] rfl rfl (by kernel_rfl) (fun _ _ _ h=>h) (Or.inl ⟨by rfl,?_⟩) ?_ ?_
 rotate_left;(intro w';go_simp;with_reducible rfl);rotate_left;(simp only [Act.put,List.setIfInBounds_toArray,List.set_cons_zero,List.set_cons_succ,i64_w,i32_w];rfl)
 refine pure_ (i:=8) (N:=some 5) (v:=?_) (a':=?_) #[true,true,true,true,true,true,true,true,true] rfl rfl (by kernel_rfl) (fun _ _ _ h=>h) (Or.inl ⟨by rfl,?_⟩) ?_ ?_
 rotate_left;(intro w';go_simp;with_reducible rfl);rotate_left;(simp only [Act.put,List.setIfInBounds_toArray,List.set_cons_zero,List.set_cons_succ,i64_w,i32_w];rfl)
 refine done_ (by kernel_rfl) ?_
 try go_wp2
 go_ret
 exact ⟨rfl,HB.out⟩
set_option maxHeartbeats 4000000 in
set_option maxRecDepth 100000 in
theorem belowS_any (gs gm gk : Nat) (A : Option Addr) (c : Nat) (T : List Int) (a b d : Int) (B : Option Addr) (e : Nat) (l : List (List XV)) (AK : Option Addr) (cK : Nat) (key : List XV) (w : World) (hE : OEnv w gs gm gk A c T a b d B e l AK cK key) (hT8 : T.length≤1000000000) (hlen : l.length≤1000000000) :
  Calls Try.prog 27 #[.int .i64 l.length,.func (.func 28) #[] #[.pointer (some ⟨gs,0,none⟩),.pointer (some ⟨gm,0,none⟩),.pointer (some ⟨gk,0,none⟩)]] w fun e w'=>e=.returned (.int .i64 (bsr (fun i : Nat=>decide (cmpRow T a (rdR l i) key ≥ 0)) l.length 0 l.length : Nat))∧Below w.heap.size w w':=by
 obtain ⟨p,hp⟩ : ∃ p : Nat→Bool,p=fun i : Nat=>decide (cmpRow T a (rdR l i) key ≥ 0):=⟨_,rfl⟩
 rw [← hp]
 obtain ⟨r,hr⟩ : ∃ r,r=bsr p l.length 0 l.length:=⟨_,rfl⟩
 rw [← hr]
 have HR:=Aside0.mk hr
 have HP:=Aside0.mk hp
 have HE:=Aside0.mk hE
 clear hr hp hE
 go_enter Try.func27,Try.ntmps27
 go_wp2
 go_loopw [5,6] (fun i j wr=>∃ i' j' : Nat,i'≤j'∧j'≤l.length∧i=.int .i64 i'∧j=.int .i64 j'∧Aside0 (r=bsr p (j' - i') i' j')∧Aside0 (Below w.heap.size w wr)) (fun i j _=>(intOf j).toNat - (intOf i).toNat)
 case atStart=>exact ⟨0,l.length,Nat.zero_le _,Nat.le_refl _,rfl,rfl,HR,Aside0.mk (Below.refl _ _)⟩
 case round =>
  obtain ⟨i,j,hij,hjn,rfl,rfl,HQ,HB⟩:=hrel
  by_cases hlt : i < j
  ·have hq:=HQ.out
   rw [show j - i=(j - i - 1) + 1 by omega,bsr,if_pos hlt] at hq
   obtain ⟨h,hh_⟩ : ∃ h,(i + j) / 2=h:=⟨_,rfl⟩
   rw [hh_] at hq
   have hih : i≤h:=by omega
   have hhj : h < j:=by omega
   have hhl : h < l.length:=by omega
   have hhl1 : h≤l.length:=by omega
   have hj1 : h + 1≤j:=by omega
   have m1 : h - i≤j - i - 1:=by omega
   have m2 : h - i≤h - i:=by omega
   have m3 : j - (h + 1)≤j - i - 1:=by omega
   have m4 : j - (h + 1)≤j - (h + 1):=by omega
   have m5 : h - i < j - i:=by omega
   have m6 : j - (h + 1) < j - i:=by omega
   have eh : ((h : Nat) : Int)=((i : Int) + (j : Int)) / 2:=by omega
   have eh1 : ((i : Int) + (j : Int)) / 2 + 1=((h + 1 : Nat) : Int):=by omega
   have hc : ∀ W,Below w.heap.size w W→Calls Try.prog 28 #[.int .i64 (((i : Int) + (j : Int)) / 2),.pointer (some ⟨gs,0,none⟩),.pointer (some ⟨gm,0,none⟩),.pointer (some ⟨gk,0,none⟩)] W fun e w'=>e=.returned (.bool (p h))∧Below W.heap.size W w':=fun W hB=>by
    have HB:=Aside0.mk hB
    rw [← eh,congrFun HP.out h]
    exact below_any gs gm gk A c T a b d B e l AK cK key _ (HE.out.below HB.out) hT8 h hhl
   have HQ2:=Aside0.mk hq
   have EH:=Aside0.mk eh
   have EH1:=Aside0.mk eh1
   have HIH:=Aside0.mk (And.intro hih (And.intro hhj (And.intro hhl (And.intro hhl1 hj1))))
   clear HQ hq hh_ eh eh1 hih hhj hhl hhl1 hj1
   by_cases ho : p h=true
   ·have hq:=HQ2.out
    rw [if_pos ho,bsr_fuel p _ (h - i) i h m1 m2] at hq
    have HQ:=Aside0.mk hq
    rw [ho] at hc
    clear hq ho HQ2 m1 m2 m3 m4
    have M5:=Aside0.mk m5
    have M6:=Aside0.mk m6
    clear m5 m6
    go_wp2_with (go_at_call 28;refine (hc _ HB.out).mono ?_;rintro e w' ⟨rfl,hb⟩;have HB2:=Aside0.mk (below_step HB.out hb);clear hb)
    go_roundw
    case rel=>exact ⟨i,h,HIH.out.1,HIH.out.2.2.2.1,rfl,by rw [EH.out],HQ,HB2⟩
    case measure=>rw [← EH.out];simp only [intOf,Int.toNat_natCast];exact M5.out
   ·have hq:=HQ2.out
    rw [if_neg ho,bsr_fuel p _ (j - (h + 1)) (h + 1) j m3 m4] at hq
    have ho2 : p h=false:=Bool.eq_false_iff.mpr ho
    have HQ:=Aside0.mk hq
    rw [ho2] at hc
    clear hq ho ho2 HQ2 m1 m2 m3 m4
    have M5:=Aside0.mk m5
    have M6:=Aside0.mk m6
    clear m5 m6
    go_wp2_with (go_at_call 28;refine (hc _ HB.out).mono ?_;rintro e w' ⟨rfl,hb⟩;have HB2:=Aside0.mk (below_step HB.out hb);clear hb)
    go_roundw
    case rel=>exact ⟨h + 1,j,HIH.out.2.2.2.2,hjn,by rw [EH1.out],rfl,HQ,HB2⟩
    case measure=>rw [EH1.out];simp only [intOf,Int.toNat_natCast];exact M6.out
  ·have hq:=HQ.out
   rw [show j - i=0 by omega,bsr] at hq
   have HQ2:=Aside0.mk hq
   clear hq HQ
   have c0 : decide ((i : Int) < (j : Int))=false:=decide_eq_false (by omega)
   go_wp2
   go_ret
   exact ⟨by rw [HQ2.out];rfl,HB.out⟩
set_option maxHeartbeats 4000000 in
set_option maxRecDepth 100000 in
theorem uptoS_any (gs gm gk : Nat) (A : Option Addr) (c : Nat) (T : List Int) (a b d : Int) (B : Option Addr) (e : Nat) (l : List (List XV)) (AK : Option Addr) (cK : Nat) (key : List XV) (w : World) (hE : OEnv w gs gm gk A c T a b d B e l AK cK key) (hT8 : T.length≤1000000000) (hlen : l.length≤1000000000) :
  Calls Try.prog 27 #[.int .i64 l.length,.func (.func 29) #[] #[.pointer (some ⟨gs,0,none⟩),.pointer (some ⟨gm,0,none⟩),.pointer (some ⟨gk,0,none⟩)]] w fun e w'=>e=.returned (.int .i64 (bsr (fun i : Nat=>decide (cmpRow T a (rdR l i) key > 0)) l.length 0 l.length : Nat))∧Below w.heap.size w w':=by
 obtain ⟨p,hp⟩ : ∃ p : Nat→Bool,p=fun i : Nat=>decide (cmpRow T a (rdR l i) key > 0):=⟨_,rfl⟩
 rw [← hp]
 obtain ⟨r,hr⟩ : ∃ r,r=bsr p l.length 0 l.length:=⟨_,rfl⟩
 rw [← hr]
 have HR:=Aside0.mk hr
 have HP:=Aside0.mk hp
 have HE:=Aside0.mk hE
 clear hr hp hE
 go_enter Try.func27,Try.ntmps27
 go_wp2
 go_loopw [5,6] (fun i j wr=>∃ i' j' : Nat,i'≤j'∧j'≤l.length∧i=.int .i64 i'∧j=.int .i64 j'∧Aside0 (r=bsr p (j' - i') i' j')∧Aside0 (Below w.heap.size w wr)) (fun i j _=>(intOf j).toNat - (intOf i).toNat)
 case atStart=>exact ⟨0,l.length,Nat.zero_le _,Nat.le_refl _,rfl,rfl,HR,Aside0.mk (Below.refl _ _)⟩
 case round =>
  obtain ⟨i,j,hij,hjn,rfl,rfl,HQ,HB⟩:=hrel
  by_cases hlt : i < j
  ·have hq:=HQ.out
   rw [show j - i=(j - i - 1) + 1 by omega,bsr,if_pos hlt] at hq
   obtain ⟨h,hh_⟩ : ∃ h,(i + j) / 2=h:=⟨_,rfl⟩
   rw [hh_] at hq
   have hih : i≤h:=by omega
   have hhj : h < j:=by omega
   have hhl : h < l.length:=by omega
   have hhl1 : h≤l.length:=by omega
   have hj1 : h + 1≤j:=by omega
   have m1 : h - i≤j - i - 1:=by omega
   have m2 : h - i≤h - i:=by omega
   have m3 : j - (h + 1)≤j - i - 1:=by omega
   have m4 : j - (h + 1)≤j - (h + 1):=by omega
   have m5 : h - i < j - i:=by omega
   have m6 : j - (h + 1) < j - i:=by omega
   have eh : ((h : Nat) : Int)=((i : Int) + (j : Int)) / 2:=by omega
   have eh1 : ((i : Int) + (j : Int)) / 2 + 1=((h + 1 : Nat) : Int):=by omega
   have hc : ∀ W,Below w.heap.size w W→Calls Try.prog 29 #[.int .i64 (((i : Int) + (j : Int)) / 2),.pointer (some ⟨gs,0,none⟩),.pointer (some ⟨gm,0,none⟩),.pointer (some ⟨gk,0,none⟩)] W fun e w'=>e=.returned (.bool (p h))∧Below W.heap.size W w':=fun W hB=>by
    have HB:=Aside0.mk hB
    rw [← eh,congrFun HP.out h]
    exact upto_any gs gm gk A c T a b d B e l AK cK key _ (HE.out.below HB.out) hT8 h hhl
   have HQ2:=Aside0.mk hq
   have EH:=Aside0.mk eh
   have EH1:=Aside0.mk eh1
   have HIH:=Aside0.mk (And.intro hih (And.intro hhj (And.intro hhl (And.intro hhl1 hj1))))
   clear HQ hq hh_ eh eh1 hih hhj hhl hhl1 hj1
   by_cases ho : p h=true
   ·have hq:=HQ2.out
    rw [if_pos ho,bsr_fuel p _ (h - i) i h m1 m2] at hq
    have HQ:=Aside0.mk hq
    rw [ho] at hc
    clear hq ho HQ2 m1 m2 m3 m4
    have M5:=Aside0.mk m5
    have M6:=Aside0.mk m6
    clear m5 m6
    go_wp2_with (go_at_call 29;refine (hc _ HB.out).mono ?_;rintro e w' ⟨rfl,hb⟩;have HB2:=Aside0.mk (below_step HB.out hb);clear hb)
    go_roundw
    case rel=>exact ⟨i,h,HIH.out.1,HIH.out.2.2.2.1,rfl,by rw [EH.out],HQ,HB2⟩
    case measure=>rw [← EH.out];simp only [intOf,Int.toNat_natCast];exact M5.out
   ·have hq:=HQ2.out
    rw [if_neg ho,bsr_fuel p _ (j - (h + 1)) (h + 1) j m3 m4] at hq
    have ho2 : p h=false:=Bool.eq_false_iff.mpr ho
    have HQ:=Aside0.mk hq
    rw [ho2] at hc
    clear hq ho ho2 HQ2 m1 m2 m3 m4
    have M5:=Aside0.mk m5
    have M6:=Aside0.mk m6
    clear m5 m6
    go_wp2_with (go_at_call 29;refine (hc _ HB.out).mono ?_;rintro e w' ⟨rfl,hb⟩;have HB2:=Aside0.mk (below_step HB.out hb);clear hb)
    go_roundw
    case rel=>exact ⟨h + 1,j,HIH.out.2.2.2.2,hjn,by rw [EH1.out],rfl,HQ,HB2⟩
    case measure=>rw [EH1.out];simp only [intOf,Int.toNat_natCast];exact M6.out
  ·have hq:=HQ.out
   rw [show j - i=0 by omega,bsr] at hq
   have HQ2:=Aside0.mk hq
   clear hq HQ
   have c0 : decide ((i : Int) < (j : Int))=false:=decide_eq_false (by omega)
   go_wp2
   go_ret
   exact ⟨by rw [HQ2.out];rfl,HB.out⟩
def order_Below.f (k : Nat) (T : List Int) (a b d : Int) (l : List (List XV)) (key : List XV) : Option Int:=if T.length≤1000000000∧l.length≤1000000000 then some ((bsr (fun i : Nat=>decide (cmpRow T a (rdR l i) key ≥ 0)) l.length 0 l.length : Nat) : Int) else none
theorem order_Below.mono : ∀ T a b d l key k,LeO (order_Below.f k T a b d l key) (order_Below.f (k + 1) T a b d l key):=fun _ _ _ _ _ _ _=>LeO.refl _
set_option maxHeartbeats 4000000 in
set_option maxRecDepth 100000 in
theorem order_Below.calls (k : Nat) (A : Option Addr) (c : Nat) (T : List Int) (a b d : Int) (B : Option Addr) (e : Nat) (l : List (List XV)) (AK : Option Addr) (cK : Nat) (key : List XV) (r : Int) (w : World)
  (hT : Kd.C (Kd.int .i64) w A T.length T) (hc : T.length≤c) (hM : Kd.C (Kd.slice 41 k41) w B l.length l) (he : l.length≤e) (hK : Kd.C k41 w AK key.length key) (hcK : key.length≤cK)
  (h : order_Below.f k T a b d l key=some r) :
  Calls Try.prog 13 #[.agg #[.slice A T.length c,.int .i64 a,.int .i64 b,.int .i64 d],.slice B l.length e,.slice AK key.length cK] w fun e w'=>e=.returned (.int .i64 r)∧Below w.heap.size w w':=by
 unfold order_Below.f at h
 split at h
 case isFalse=>exact absurd h (by simp)
 case isTrue hn =>
 injection h with h
 subst h
 have HN:=Aside0.mk hn
 have HT:=Aside0.mk hT
 have HM:=Aside0.mk hM
 have HK:=Aside0.mk hK
 have HC:=Aside0.mk (And.intro hc (And.intro he hcK))
 clear hn hT hM hK hc he hcK
 have HB:=Aside0.mk (Below.refl w.heap.size w)
 obtain ⟨q,hq⟩ : ∃ q,q=bsr (fun i : Nat=>decide (cmpRow T a (rdR l i) key ≥ 0)) l.length 0 l.length:=⟨_,rfl⟩
 rw [← hq]
 have hS : ∀ (W : World) (gs gm gk : Nat),OEnv W gs gm gk A c T a b d B e l AK cK key→Calls Try.prog 27 #[.int .i64 l.length,.func (.func 28) #[] #[.pointer (some ⟨gs,0,none⟩),.pointer (some ⟨gm,0,none⟩),.pointer (some ⟨gk,0,none⟩)]] W fun e w'=>e=.returned (.int .i64 (q : Nat))∧Below W.heap.size W w':=fun W gs gm gk hE=>by
  rw [hq];exact belowS_any gs gm gk A c T a b d B e l AK cK key W hE HN.out.1 HN.out.2
 have HS:=Aside0.mk hS
 clear hq hS
 go_enter Try.func13,Try.ntmps13
 go_wp2_with (first|((with_reducible refine gate_dst (N:=3) rfl ?_);refine box_event ?hg (N:=3) ?hd (cs:=#[.slice A T.length c,.int .i64 a,.int .i64 b,.int .i64 d]) (t:=31) ?hr ?_;(case hd=>rfl);(case hg=>rfl);(case hr=>first|(go_simp;done)|(go_simp;rfl));intro gs hg w4 hbox hb;have nb_:=Aside0.mk (below_step HB.out hb);have nh_:=Aside0.mk hbox;have ng_:=Aside0.mk ((by rw [hg];exact below_size HB.out) : w.heap.size≤gs);clear HB;have HB:=nb_;have BKgs:=nh_;have GEgs:=ng_;clear nb_ nh_ ng_;clear hb hbox hg)|((with_reducible refine gate_dst (N:=4) rfl ?_);refine box_event ?hg (N:=4) ?hd (cs:=#[.slice B l.length e]) (t:=25) ?hr ?_;(case hd=>rfl);(case hg=>rfl);(case hr=>first|(go_simp;done)|(go_simp;rfl));intro gm hg w4 hbox hb;have n0_:=Aside0.mk (blk_below BKgs.out hb);have nb_:=Aside0.mk (below_step HB.out hb);have nh_:=Aside0.mk hbox;have ng_:=Aside0.mk ((by rw [hg];exact below_size HB.out) : w.heap.size≤gm);clear HB;have HB:=nb_;have BKgm:=nh_;have GEgm:=ng_;clear nb_ nh_ ng_;clear BKgs;have BKgs:=n0_;clear n0_;clear hb hbox hg)|((with_reducible refine gate_dst (N:=5) rfl ?_);refine box_event ?hg (N:=5) ?hd (cs:=#[.slice AK key.length cK]) (t:=27) ?hr ?_;(case hd=>rfl);(case hg=>rfl);(case hr=>first|(go_simp;done)|(go_simp;rfl));intro gk hg w4 hbox hb;have n0_:=Aside0.mk (blk_below BKgs.out hb);have n1_:=Aside0.mk (blk_below BKgm.out hb);have nb_:=Aside0.mk (below_step HB.out hb);have nh_:=Aside0.mk hbox;have ng_:=Aside0.mk ((by rw [hg];exact below_size HB.out) : w.heap.size≤gk);clear HB;have HB:=nb_;have BKgk:=nh_;have GEgk:=ng_;clear nb_ nh_ ng_;clear BKgs;have BKgs:=n0_;clear n0_;clear BKgm;have BKgm:=n1_;clear n1_;clear hb hbox hg;have h8 : w4.cell? ⟨gm,0,none⟩=some (.slice B l.length e):=(blk_cell BKgm.out 0).trans rfl)|(go_at_call 27;refine (HS.out _ gs gm gk ⟨BKgs.out,BKgm.out,BKgk.out,Kd.C_below HT.out HB.out,HC.out.1,Kd.C_below HM.out HB.out,Kd.C_below HK.out HB.out,HC.out.2.2⟩).mono ?_;rintro e w9 ⟨rfl,hb⟩;have HZ:=Aside0.mk (below_step HB.out hb);clear hb))
 go_ret
 exact ⟨rfl,HZ.out⟩
def order_Upto.f (k : Nat) (T : List Int) (a b d : Int) (l : List (List XV)) (key : List XV) : Option Int:=if T.length≤1000000000∧l.length≤1000000000 then some ((bsr (fun i : Nat=>decide (cmpRow T a (rdR l i) key > 0)) l.length 0 l.length : Nat) : Int) else none
theorem order_Upto.mono : ∀ T a b d l key k,LeO (order_Upto.f k T a b d l key) (order_Upto.f (k + 1) T a b d l key):=fun _ _ _ _ _ _ _=>LeO.refl _
set_option maxHeartbeats 4000000 in
set_option maxRecDepth 100000 in
theorem order_Upto.calls (k : Nat) (A : Option Addr) (c : Nat) (T : List Int) (a b d : Int) (B : Option Addr) (e : Nat) (l : List (List XV)) (AK : Option Addr) (cK : Nat) (key : List XV) (r : Int) (w : World)
  (hT : Kd.C (Kd.int .i64) w A T.length T) (hc : T.length≤c) (hM : Kd.C (Kd.slice 41 k41) w B l.length l) (he : l.length≤e) (hK : Kd.C k41 w AK key.length key) (hcK : key.length≤cK)
  (h : order_Upto.f k T a b d l key=some r) :
  Calls Try.prog 14 #[.agg #[.slice A T.length c,.int .i64 a,.int .i64 b,.int .i64 d],.slice B l.length e,.slice AK key.length cK] w fun e w'=>e=.returned (.int .i64 r)∧Below w.heap.size w w':=by
 unfold order_Upto.f at h
 split at h
 case isFalse=>exact absurd h (by simp)
 case isTrue hn =>
 injection h with h
 subst h
 have HN:=Aside0.mk hn
 have HT:=Aside0.mk hT
 have HM:=Aside0.mk hM
 have HK:=Aside0.mk hK
 have HC:=Aside0.mk (And.intro hc (And.intro he hcK))
 clear hn hT hM hK hc he hcK
 have HB:=Aside0.mk (Below.refl w.heap.size w)
 obtain ⟨q,hq⟩ : ∃ q,q=bsr (fun i : Nat=>decide (cmpRow T a (rdR l i) key > 0)) l.length 0 l.length:=⟨_,rfl⟩
 rw [← hq]
 have hS : ∀ (W : World) (gs gm gk : Nat),OEnv W gs gm gk A c T a b d B e l AK cK key→Calls Try.prog 27 #[.int .i64 l.length,.func (.func 29) #[] #[.pointer (some ⟨gs,0,none⟩),.pointer (some ⟨gm,0,none⟩),.pointer (some ⟨gk,0,none⟩)]] W fun e w'=>e=.returned (.int .i64 (q : Nat))∧Below W.heap.size W w':=fun W gs gm gk hE=>by
  rw [hq];exact uptoS_any gs gm gk A c T a b d B e l AK cK key W hE HN.out.1 HN.out.2
 have HS:=Aside0.mk hS
 clear hq hS
 go_enter Try.func14,Try.ntmps14
 go_wp2_with (first|((with_reducible refine gate_dst (N:=3) rfl ?_);refine box_event ?hg (N:=3) ?hd (cs:=#[.slice A T.length c,.int .i64 a,.int .i64 b,.int .i64 d]) (t:=31) ?hr ?_;(case hd=>rfl);(case hg=>rfl);(case hr=>first|(go_simp;done)|(go_simp;rfl));intro gs hg w4 hbox hb;have nb_:=Aside0.mk (below_step HB.out hb);have nh_:=Aside0.mk hbox;have ng_:=Aside0.mk ((by rw [hg];exact below_size HB.out) : w.heap.size≤gs);clear HB;have HB:=nb_;have BKgs:=nh_;have GEgs:=ng_;clear nb_ nh_ ng_;clear hb hbox hg)|((with_reducible refine gate_dst (N:=4) rfl ?_);refine box_event ?hg (N:=4) ?hd (cs:=#[.slice B l.length e]) (t:=25) ?hr ?_;(case hd=>rfl);(case hg=>rfl);(case hr=>first|(go_simp;done)|(go_simp;rfl));intro gm hg w4 hbox hb;have n0_:=Aside0.mk (blk_below BKgs.out hb);have nb_:=Aside0.mk (below_step HB.out hb);have nh_:=Aside0.mk hbox;have ng_:=Aside0.mk ((by rw [hg];exact below_size HB.out) : w.heap.size≤gm);clear HB;have HB:=nb_;have BKgm:=nh_;have GEgm:=ng_;clear nb_ nh_ ng_;clear BKgs;have BKgs:=n0_;clear n0_;clear hb hbox hg)|((with_reducible refine gate_dst (N:=5) rfl ?_);refine box_event ?hg (N:=5) ?hd (cs:=#[.slice AK key.length cK]) (t:=27) ?hr ?_;(case hd=>rfl);(case hg=>rfl);(case hr=>first|(go_simp;done)|(go_simp;rfl));intro gk hg w4 hbox hb;have n0_:=Aside0.mk (blk_below BKgs.out hb);have n1_:=Aside0.mk (blk_below BKgm.out hb);have nb_:=Aside0.mk (below_step HB.out hb);have nh_:=Aside0.mk hbox;have ng_:=Aside0.mk ((by rw [hg];exact below_size HB.out) : w.heap.size≤gk);clear HB;have HB:=nb_;have BKgk:=nh_;have GEgk:=ng_;clear nb_ nh_ ng_;clear BKgs;have BKgs:=n0_;clear n0_;clear BKgm;have BKgm:=n1_;clear n1_;clear hb hbox hg;have h8 : w4.cell? ⟨gm,0,none⟩=some (.slice B l.length e):=(blk_cell BKgm.out 0).trans rfl)|(go_at_call 27;refine (HS.out _ gs gm gk ⟨BKgs.out,BKgm.out,BKgk.out,Kd.C_below HT.out HB.out,HC.out.1,Kd.C_below HM.out HB.out,Kd.C_below HK.out HB.out,HC.out.2.2⟩).mono ?_;rintro e w9 ⟨rfl,hb⟩;have HZ:=Aside0.mk (below_step HB.out hb);clear hb))
 go_ret
 exact ⟨rfl,HZ.out⟩
end Go.Proofs.Ytojbeofipedolaa.P

