/- Texts of ValueAll. Merged: HBld. -/
import Derived.Test.YtifpjhghbafcjaaDoorQValueAllShelfB
import Derived.Test.YtifpjhghbafcjaaDoorQValueAllHKit
import Derived.WalkKit
import Derived.BigCall
import Derived.BigGuard
import Derived.Laws.IdiomStrings
/- strings.Builder at this program: a byte written, and what else stands. -/
namespace Go.Proofs.YtifpjhghbafcjaaDoor.P
open Go.RowKit Go.Proofs.YtifpjhghbafcjaaDoorW.PrintWords Go.Proofs.YtifpjhghbafcjaaDoorW.PrintLast Go.Proofs.YtifpjhghbafcjaaDoorW.PrintMore
set_option linter.unusedVariables false
set_option linter.unusedSimpArgs false
structure Bd (B b : Nat) (v : Value) (bs : List Value) (w : World) : Prop where
 hB : B≤b
 blk : ∃ p,(p=.pointer none ∨ p=.pointer (some ⟨b,0,none⟩))∧w.heap[b]?=some (.cells #[p,v] 67 (0,0))
 own : w.ownsRow B 5 1 v bs.length bs
 ne : v.ownBlock≠some b
theorem Bd.isB {B b : Nat} {v : Value} {bs : List Value} {w : World} (h : Bd B b v bs w) : Lib.IsBuilder 67 5 B b bs w:=by
 obtain ⟨p,hp,hb⟩:=h.blk
 rcases hp with rfl|rfl
 ·exact .inl ⟨h.hB,v,hb,h.own,h.ne⟩
 ·exact .inr ⟨h.hB,v,hb,h.own,h.ne⟩
structure KeptB (B b : Nat) (v : Value) (w w' : World) : Prop where
 below : Below B w w'
 size : w.heap.size≤w'.heap.size
 other : ∀ k,k < w.heap.size→k≠b→some k≠v.ownBlock→w'.heap[k]?=w.heap[k]?
set_option maxHeartbeats 1000000 in
set_option maxRecDepth 100000 in
theorem check_fresh (b : Nat) (w : World) (h0 : w.cell? ⟨b,0,none⟩=some (.pointer none)) (hsh : w.shape? b=some (67,2)) (hfz : w.frozen? ⟨b,0,none⟩=false) :
  Calls Tryd.prog 56 #[.pointer (some ⟨b,0,none⟩)] w fun e w'=>e=.returned (.tuple #[])∧w'=w.setCell ⟨b,0,none⟩ (.pointer (some ⟨b,0,none⟩)):=by
 obtain ⟨j,hj,hjs⟩:=Option.map_eq_some_iff.1 (show (Tryd.prog.info? 67).map (·.size)=some 2 by kernel_rfl)
 have hu67:=Tryd.underlying67
 go_enter Tryd.func56,Tryd.ntmps56
 go_wp2
 rw [Lib.run_to_unsafe w ⟨b,0,none⟩ Tryd.underlying64 Tryd.underlying93 hj (by rw [hjs];decide) hsh (Nat.zero_lt_succ 1)]
 simp only [Result.andThen]
 rw [Oper.upon_value]
 go_wp2
 rw [run_callFunc_extern Tryd.func70 (by kernel_rfl) (by kernel_rfl) (by kernel_rfl) (e:=Extern.AbiNoEscape.same) (by kernel_rfl)]
 rw [Lib.run_noEscape]
 simp only [Result.andThen]
 rw [Oper.upon_value]
 go_wp2
 rw [Lib.run_from_unsafe w ⟨b,0,none⟩ Tryd.underlying93 Tryd.underlying64 hj hsh (by kernel_rfl)]
 simp only [Result.andThen]
 rw [Oper.upon_value]
 go_wp2
 go_end0
 exact ⟨rfl,rfl⟩
set_option maxHeartbeats 1000000 in
set_option maxRecDepth 100000 in
theorem check_used (b : Nat) (w : World) (h0 : w.cell? ⟨b,0,none⟩=some (.pointer (some ⟨b,0,none⟩))) :
  Calls Tryd.prog 56 #[.pointer (some ⟨b,0,none⟩)] w fun e w'=>e=.returned (.tuple #[])∧w'=w:=by
 obtain ⟨j,hj,hjs⟩:=Option.map_eq_some_iff.1 (show (Tryd.prog.info? 67).map (·.size)=some 2 by kernel_rfl)
 have hu67:=Tryd.underlying67
 go_enter Tryd.func56,Tryd.ntmps56
 go_wp2
 rw [Lib.run_neq_ptr_same w _ Tryd.underlying64 hj]
 go_wp2
 go_end0
 exact ⟨rfl,rfl⟩
theorem check_any {B b : Nat} {v : Value} {bs : List Value} {w : World} (h : Bd B b v bs w) :
  Calls Tryd.prog 56 #[.pointer (some ⟨b,0,none⟩)] w fun e w'=>e=.returned (.tuple #[])∧w'.heap[b]?=some (.cells #[.pointer (some ⟨b,0,none⟩),v] 67 (0,0))∧w'.ownsRow B 5 1 v bs.length bs∧w'.heap.size=w.heap.size∧Below B w w'∧∀ k,k≠b→w'.heap[k]?=w.heap[k]?:=by
 obtain ⟨p,hp,hb⟩:=h.blk
 have c0 : w.cell? ⟨b,0,none⟩=some p:=by rw [blk_cell hb];rfl
 rcases hp with rfl|rfl
 ·refine (check_fresh b w c0 (by simp [World.shape?,hb]) (blk_frozen hb 0)).mono ?_
  rintro e w' ⟨rfl,rfl⟩
  refine ⟨rfl,?_,own_setCell h.own (fun e=>h.ne e.symm) _,by simp,(Below.refl B w).setCell (p:=⟨b,0,none⟩) h.hB _,fun k hk=>Below.heap_setCell w _ _ k hk⟩
  have:=blk_set hb 0 (.pointer (some ⟨b,0,none⟩))
  simpa using this
 ·refine (check_used b w c0).mono ?_
  rintro e w' ⟨rfl,rfl⟩
  exact ⟨rfl,hb,h.own,rfl,Below.refl _ _,fun _ _=>rfl⟩
theorem info_u8 : (Tryd.prog.info? 5).map (fun i=>(i.zero,i.size,i.bytes))=some (some (.int .u8 0),1,1):=by kernel_rfl
set_option maxHeartbeats 2000000 in
set_option maxRecDepth 100000 in
theorem write_any {B b : Nat} {v : Value} {bs : List Value} {w : World} (h : Bd B b v bs w) (c : Int) (hlen : bs.length + 1≤140737488355328) :
  Calls Tryd.prog 43 #[.pointer (some ⟨b,0,none⟩),.int .u8 c] w fun e w'=>e=.returned .nilIface∧∃ v',Bd B b v' (bs ++ [.int .u8 c]) w'∧KeptB B b v w w':=by
 have hBw : B≤w.heap.size:=by
  obtain ⟨p,_,hb⟩:=h.blk
  have:=blk_lt hb
  have:=h.hB
  omega
 have hu67:=Tryd.underlying67
 go_enter Tryd.func43,Tryd.ntmps43
 go_wp2_with (go_at_call 56;refine (check_any h).mono ?_)
 rintro e w1 ⟨rfl,hbk,hown,hsz,hb1,hoth⟩
 have c0 : w1.cell? ⟨b,0,none⟩=some (.pointer (some ⟨b,0,none⟩)):=by rw [blk_cell hbk];rfl
 have c1 : w1.cell? ⟨b,1,none⟩=some v:=by rw [blk_cell hbk];rfl
 have HS:=Aside0.mk hsz
 have HO:=Aside0.mk hoth
 have HN:=Aside0.mk h.ne
 clear hsz hoth
 go_wp2_with (at_builtin;refine print_append_cells (w0:=w1) B rfl _ _ 65 5 (.int .u8 0) 1 1 rfl Tryd.underlying65 info_u8 rfl (by decide) (by decide) v bs.length bs [.int .u8 c] rfl rfl rfl ?h1 hown (Below.refl _ _) ?hb ?hl ?_)
 case h1=>intro u hu;simp at hu;subst hu;rfl
 case hb=>have:=HS.out;omega
 case hl=>omega
 intro v' w2 hown' hb2 hgrow _
 have hlt:=blk_lt hbk
 have hbk2 : w2.heap[b]?=some (.cells #[.pointer (some ⟨b,0,none⟩),v] 67 (0,0)):=(hgrow.block b hlt (fun e=>HN.out e.symm)).trans hbk
 have d0 : w2.cell? ⟨b,0,none⟩=some (.pointer (some ⟨b,0,none⟩)):=by rw [blk_cell hbk2];rfl
 have d1 : w2.cell? ⟨b,1,none⟩=some v:=by rw [blk_cell hbk2];rfl
 have f1 : w2.frozen? ⟨b,1,none⟩=false:=blk_frozen hbk2 1
 obtain ⟨g,cap,rfl⟩ : ∃ g cap,v'=.slice (some ⟨g,0,none⟩) (bs.length + 1) cap:=by
  rcases hown'.2 with ⟨_,h0⟩|⟨g,cap,cur,hv,_⟩
  ·omega
  ·exact ⟨g,cap,hv⟩
 have hg : some b≠(Value.slice (some ⟨g,0,none⟩) (bs.length + 1) cap).ownBlock:=own_ne hown' hbk2 (by decide)
 have HH:=Aside0.mk hown'
 have HG:=Aside0.mk hg
 have HB2:=Aside0.mk hb2
 have HK:=Aside0.mk hgrow
 have HK2:=Aside0.mk hbk2
 clear hown' hg hb2 hgrow hbk2
 go_wp2
 go_ret
 refine ⟨rfl,_,⟨h.hB,⟨_,.inr rfl,?_⟩,?_,fun e=>HG.out e.symm⟩,⟨(hb1.trans HB2.out).setCell (p:=⟨b,1,none⟩) h.hB _,?_,fun k hk hkb hkv=>?_⟩⟩
 ·have:=blk_set HK2.out 1 (.slice (some ⟨g,0,none⟩) (bs.length + 1) cap)
  simpa using this
 ·rw [show (bs ++ [Value.int .u8 c]).length=bs.length + 1 by simp]
  exact own_setCell HH.out HG.out _
 ·simp
  have:=HK.out.size
  have:=HS.out
  omega
 ·rw [Below.heap_setCell _ _ _ k hkb,HK.out.block k (by have:=HS.out;omega) hkv,HO.out k hkb]
end Go.Proofs.YtifpjhghbafcjaaDoor.P

