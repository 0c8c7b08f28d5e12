/- Texts of MergeFirst. Merged: Px3. -/
import Derived.Test.YtfiandejapgkoaaQMergeFirstPx0
import Derived.Test.YtfiandejapgkoaaMMergeFirst1
namespace Go.Proofs.Ytfiandejapgkoaa.P
open Go.RowKit Go.Proofs.YtfiandejapgkoaaW.PrintWords Go.Proofs.YtfiandejapgkoaaW.PrintLast Go.Proofs.YtfiandejapgkoaaW.PrintMore
attribute [local go_sem] max2_int min2_int max_two min_two max_three min_three max_four min_four   -- for this text's walks alone
set_option linter.unusedVariables false
set_option linter.unusedSimpArgs false
def thresherlaw14_shown.j0 : Nat→Bool→Option (Bool)
 | 0,_=>none
 | k + 1,x0=>some x0
def thresherlaw14_shown.f (k : Nat)  : Option (Bool):=(merge_Rows.f k (([1] : List Int)) 1 1 1 (([(([(([(⟨1,(⟨#[]⟩ : ByteArray)⟩ : S31)] : List (S31))),(([(⟨4,(⟨#[]⟩ : ByteArray)⟩ : S31)] : List (S31)))] : List (List (S31)))),(([(([(⟨2,(⟨#[]⟩ : ByteArray)⟩ : S31)] : List (S31)))] : List (List (S31)))),(([(([(⟨1,(⟨#[]⟩ : ByteArray)⟩ : S31)] : List (S31))),(([(⟨3,(⟨#[]⟩ : ByteArray)⟩ : S31)] : List (S31)))] : List (List (S31))))] : List (List (List (S31)))))).bind fun t135=>(if (t135.length : Int)=5 then (if 1 < (t135.length : Int) then (if 0 < ((rd_L3 t135 1).length : Int) then (if ((rd_T31 (rd_L3 t135 1) 0).f0)=1 then (if 2 < (t135.length : Int) then (if 0 < ((rd_L3 t135 2).length : Int) then (if ((rd_T31 (rd_L3 t135 2) 0).f0)=2 then (if 4 < (t135.length : Int) then (if 0 < ((rd_L3 t135 4).length : Int) then (thresherlaw14_shown.j0 k (((rd_T31 (rd_L3 t135 4) 0).f0) == 4)) else (none)) else (none)) else (thresherlaw14_shown.j0 k false)) else (none)) else (none)) else (thresherlaw14_shown.j0 k false)) else (none)) else (none)) else (thresherlaw14_shown.j0 k false))
theorem thresherlaw14_shown.mono_l : ∀ k,(∀ y0,LeO (thresherlaw14_shown.j0 k y0) (thresherlaw14_shown.j0 (k + 1) y0))
 | 0=>fun _ r h=>by simp [thresherlaw14_shown.j0] at h
 | k + 1=>by
  have ih0:=thresherlaw14_shown.mono_l k
  ·intro y0
   unfold thresherlaw14_shown.j0
   repeat' first
   | (with_reducible exact ih0 _)
   | (with_reducible exact merge_Rows.mono _ _ _ _ _ _)
   | (with_reducible exact LeO.refl _)
   | (with_reducible exact LeO.none _)
   | (with_reducible refine LeO.ite ?_ ?_)
   | (with_reducible refine LeO.bind ?_ (fun _=>?_))
   | exact ih0 _
   | exact merge_Rows.mono _ _ _ _ _ _
   | exact LeO.none _
   | refine LeO.ite ?_ ?_
   | refine LeO.bind ?_ (fun _=>?_)
theorem thresherlaw14_shown.mono : ∀ k,LeO (thresherlaw14_shown.f k ) (thresherlaw14_shown.f (k + 1) ):=by
 intro  k
 have ih0:=thresherlaw14_shown.mono_l k
 unfold thresherlaw14_shown.f
 repeat' first
   | (with_reducible exact ih0 _)
   | (with_reducible exact merge_Rows.mono _ _ _ _ _ _)
   | (with_reducible exact LeO.refl _)
   | (with_reducible exact LeO.none _)
   | (with_reducible refine LeO.ite ?_ ?_)
   | (with_reducible refine LeO.bind ?_ (fun _=>?_))
   | exact ih0 _
   | exact merge_Rows.mono _ _ _ _ _ _
   | exact LeO.none _
   | refine LeO.ite ?_ ?_
   | refine LeO.bind ?_ (fun _=>?_)
set_option maxHeartbeats 8000000 in
set_option maxRecDepth 100000 in
theorem thresherlaw14_shown.calls (k : Nat)  (r : Bool) (w : World) (h : thresherlaw14_shown.f k =some r) :
  Calls Try.prog 8 #[] w fun e w'=>e=.returned (.bool r)∧Below w.heap.size w w':=by
 have hu26:=Try.underlying26
 have hu31:=Try.underlying31
 have HB:=Aside0.mk (Below.refl w.heap.size w)
 have H : ((merge_Rows.f k (([1] : List Int)) 1 1 1 (([(([(([(⟨1,(⟨#[]⟩ : ByteArray)⟩ : S31)] : List (S31))),(([(⟨4,(⟨#[]⟩ : ByteArray)⟩ : S31)] : List (S31)))] : List (List (S31)))),(([(([(⟨2,(⟨#[]⟩ : ByteArray)⟩ : S31)] : List (S31)))] : List (List (S31)))),(([(([(⟨1,(⟨#[]⟩ : ByteArray)⟩ : S31)] : List (S31))),(([(⟨3,(⟨#[]⟩ : ByteArray)⟩ : S31)] : List (S31)))] : List (List (S31))))] : List (List (List (S31)))))).bind fun t135=>(if (t135.length : Int)=5 then (if 1 < (t135.length : Int) then (if 0 < ((rd_L3 t135 1).length : Int) then (if ((rd_T31 (rd_L3 t135 1) 0).f0)=1 then (if 2 < (t135.length : Int) then (if 0 < ((rd_L3 t135 2).length : Int) then (if ((rd_T31 (rd_L3 t135 2) 0).f0)=2 then (if 4 < (t135.length : Int) then (if 0 < ((rd_L3 t135 4).length : Int) then (thresherlaw14_shown.j0 k (((rd_T31 (rd_L3 t135 4) 0).f0) == 4)) else (none)) else (none)) else (thresherlaw14_shown.j0 k false)) else (none)) else (none)) else (thresherlaw14_shown.j0 k false)) else (none)) else (none)) else (thresherlaw14_shown.j0 k false)))=some r:=h
 clear h
 obtain ⟨y104,hy104⟩ : ∃ y_ : List Int,y_=(([1] : List Int)):=⟨_,rfl⟩
 replace H : ((merge_Rows.f k y104 1 1 1 (([(([(([(⟨1,(⟨#[]⟩ : ByteArray)⟩ : S31)] : List (S31))),(([(⟨4,(⟨#[]⟩ : ByteArray)⟩ : S31)] : List (S31)))] : List (List (S31)))),(([(([(⟨2,(⟨#[]⟩ : ByteArray)⟩ : S31)] : List (S31)))] : List (List (S31)))),(([(([(⟨1,(⟨#[]⟩ : ByteArray)⟩ : S31)] : List (S31))),(([(⟨3,(⟨#[]⟩ : ByteArray)⟩ : S31)] : List (S31)))] : List (List (S31))))] : List (List (List (S31)))))).bind fun t135=>(if (t135.length : Int)=5 then (if 1 < (t135.length : Int) then (if 0 < ((rd_L3 t135 1).length : Int) then (if ((rd_T31 (rd_L3 t135 1) 0).f0)=1 then (if 2 < (t135.length : Int) then (if 0 < ((rd_L3 t135 2).length : Int) then (if ((rd_T31 (rd_L3 t135 2) 0).f0)=2 then (if 4 < (t135.length : Int) then (if 0 < ((rd_L3 t135 4).length : Int) then (thresherlaw14_shown.j0 k (((rd_T31 (rd_L3 t135 4) 0).f0) == 4)) else (none)) else (none)) else (thresherlaw14_shown.j0 k false)) else (none)) else (none)) else (thresherlaw14_shown.j0 k false)) else (none)) else (none)) else (thresherlaw14_shown.j0 k false)))=some r:=by first|(rw [hy104];with_reducible exact H)|(have H2_:=(Option.bind_some _ _).symm.trans H;rw [hy104];with_reducible exact H2_)|(have H2_:=(Option.bind_some _ _).symm.trans H;with_reducible exact H2_)|with_reducible exact H|(rw [hy104];exact H)|exact H
 have Ny104:=Aside0.mk hy104
 clear hy104
 obtain ⟨y108,hy108⟩ : ∃ y_ : List (S31),y_=(([(⟨1,(⟨#[]⟩ : ByteArray)⟩ : S31)] : List (S31))):=⟨_,rfl⟩
 replace H : ((merge_Rows.f k y104 1 1 1 (([(([y108,(([(⟨4,(⟨#[]⟩ : ByteArray)⟩ : S31)] : List (S31)))] : List (List (S31)))),(([(([(⟨2,(⟨#[]⟩ : ByteArray)⟩ : S31)] : List (S31)))] : List (List (S31)))),(([(([(⟨1,(⟨#[]⟩ : ByteArray)⟩ : S31)] : List (S31))),(([(⟨3,(⟨#[]⟩ : ByteArray)⟩ : S31)] : List (S31)))] : List (List (S31))))] : List (List (List (S31)))))).bind fun t135=>(if (t135.length : Int)=5 then (if 1 < (t135.length : Int) then (if 0 < ((rd_L3 t135 1).length : Int) then (if ((rd_T31 (rd_L3 t135 1) 0).f0)=1 then (if 2 < (t135.length : Int) then (if 0 < ((rd_L3 t135 2).length : Int) then (if ((rd_T31 (rd_L3 t135 2) 0).f0)=2 then (if 4 < (t135.length : Int) then (if 0 < ((rd_L3 t135 4).length : Int) then (thresherlaw14_shown.j0 k (((rd_T31 (rd_L3 t135 4) 0).f0) == 4)) else (none)) else (none)) else (thresherlaw14_shown.j0 k false)) else (none)) else (none)) else (thresherlaw14_shown.j0 k false)) else (none)) else (none)) else (thresherlaw14_shown.j0 k false)))=some r:=by first|(rw [hy108];with_reducible exact H)|(have H2_:=(Option.bind_some _ _).symm.trans H;rw [hy108];with_reducible exact H2_)|(have H2_:=(Option.bind_some _ _).symm.trans H;with_reducible exact H2_)|with_reducible exact H|(rw [hy108];exact H)|exact H
 have Ny108:=Aside0.mk hy108
 clear hy108
 obtain ⟨y111,hy111⟩ : ∃ y_ : List (S31),y_=(([(⟨4,(⟨#[]⟩ : ByteArray)⟩ : S31)] : List (S31))):=⟨_,rfl⟩
 replace H : ((merge_Rows.f k y104 1 1 1 (([(([y108,y111] : List (List (S31)))),(([(([(⟨2,(⟨#[]⟩ : ByteArray)⟩ : S31)] : List (S31)))] : List (List (S31)))),(([(([(⟨1,(⟨#[]⟩ : ByteArray)⟩ : S31)] : List (S31))),(([(⟨3,(⟨#[]⟩ : ByteArray)⟩ : S31)] : List (S31)))] : List (List (S31))))] : List (List (List (S31)))))).bind fun t135=>(if (t135.length : Int)=5 then (if 1 < (t135.length : Int) then (if 0 < ((rd_L3 t135 1).length : Int) then (if ((rd_T31 (rd_L3 t135 1) 0).f0)=1 then (if 2 < (t135.length : Int) then (if 0 < ((rd_L3 t135 2).length : Int) then (if ((rd_T31 (rd_L3 t135 2) 0).f0)=2 then (if 4 < (t135.length : Int) then (if 0 < ((rd_L3 t135 4).length : Int) then (thresherlaw14_shown.j0 k (((rd_T31 (rd_L3 t135 4) 0).f0) == 4)) else (none)) else (none)) else (thresherlaw14_shown.j0 k false)) else (none)) else (none)) else (thresherlaw14_shown.j0 k false)) else (none)) else (none)) else (thresherlaw14_shown.j0 k false)))=some r:=by first|(rw [hy111];with_reducible exact H)|(have H2_:=(Option.bind_some _ _).symm.trans H;rw [hy111];with_reducible exact H2_)|(have H2_:=(Option.bind_some _ _).symm.trans H;with_reducible exact H2_)|with_reducible exact H|(rw [hy111];exact H)|exact H
 have Ny111:=Aside0.mk hy111
 clear hy111
 obtain ⟨y114,hy114⟩ : ∃ y_ : List (List (S31)),y_=(([y108,y111] : List (List (S31)))):=⟨_,rfl⟩
 replace H : ((merge_Rows.f k y104 1 1 1 (([y114,(([(([(⟨2,(⟨#[]⟩ : ByteArray)⟩ : S31)] : List (S31)))] : List (List (S31)))),(([(([(⟨1,(⟨#[]⟩ : ByteArray)⟩ : S31)] : List (S31))),(([(⟨3,(⟨#[]⟩ : ByteArray)⟩ : S31)] : List (S31)))] : List (List (S31))))] : List (List (List (S31)))))).bind fun t135=>(if (t135.length : Int)=5 then (if 1 < (t135.length : Int) then (if 0 < ((rd_L3 t135 1).length : Int) then (if ((rd_T31 (rd_L3 t135 1) 0).f0)=1 then (if 2 < (t135.length : Int) then (if 0 < ((rd_L3 t135 2).length : Int) then (if ((rd_T31 (rd_L3 t135 2) 0).f0)=2 then (if 4 < (t135.length : Int) then (if 0 < ((rd_L3 t135 4).length : Int) then (thresherlaw14_shown.j0 k (((rd_T31 (rd_L3 t135 4) 0).f0) == 4)) else (none)) else (none)) else (thresherlaw14_shown.j0 k false)) else (none)) else (none)) else (thresherlaw14_shown.j0 k false)) else (none)) else (none)) else (thresherlaw14_shown.j0 k false)))=some r:=by first|(rw [hy114];with_reducible exact H)|(have H2_:=(Option.bind_some _ _).symm.trans H;rw [hy114];with_reducible exact H2_)|(have H2_:=(Option.bind_some _ _).symm.trans H;with_reducible exact H2_)|with_reducible exact H|(rw [hy114];exact H)|exact H
 have Ny114:=Aside0.mk hy114
 clear hy114
 obtain ⟨y117,hy117⟩ : ∃ y_ : List (S31),y_=(([(⟨2,(⟨#[]⟩ : ByteArray)⟩ : S31)] : List (S31))):=⟨_,rfl⟩
 replace H : ((merge_Rows.f k y104 1 1 1 (([y114,(([y117] : List (List (S31)))),(([(([(⟨1,(⟨#[]⟩ : ByteArray)⟩ : S31)] : List (S31))),(([(⟨3,(⟨#[]⟩ : ByteArray)⟩ : S31)] : List (S31)))] : List (List (S31))))] : List (List (List (S31)))))).bind fun t135=>(if (t135.length : Int)=5 then (if 1 < (t135.length : Int) then (if 0 < ((rd_L3 t135 1).length : Int) then (if ((rd_T31 (rd_L3 t135 1) 0).f0)=1 then (if 2 < (t135.length : Int) then (if 0 < ((rd_L3 t135 2).length : Int) then (if ((rd_T31 (rd_L3 t135 2) 0).f0)=2 then (if 4 < (t135.length : Int) then (if 0 < ((rd_L3 t135 4).length : Int) then (thresherlaw14_shown.j0 k (((rd_T31 (rd_L3 t135 4) 0).f0) == 4)) else (none)) else (none)) else (thresherlaw14_shown.j0 k false)) else (none)) else (none)) else (thresherlaw14_shown.j0 k false)) else (none)) else (none)) else (thresherlaw14_shown.j0 k false)))=some r:=by first|(rw [hy117];with_reducible exact H)|(have H2_:=(Option.bind_some _ _).symm.trans H;rw [hy117];with_reducible exact H2_)|(have H2_:=(Option.bind_some _ _).symm.trans H;with_reducible exact H2_)|with_reducible exact H|(rw [hy117];exact H)|exact H
 have Ny117:=Aside0.mk hy117
 clear hy117
 obtain ⟨y120,hy120⟩ : ∃ y_ : List (List (S31)),y_=(([y117] : List (List (S31)))):=⟨_,rfl⟩
 replace H : ((merge_Rows.f k y104 1 1 1 (([y114,y120,(([(([(⟨1,(⟨#[]⟩ : ByteArray)⟩ : S31)] : List (S31))),(([(⟨3,(⟨#[]⟩ : ByteArray)⟩ : S31)] : List (S31)))] : List (List (S31))))] : List (List (List (S31)))))).bind fun t135=>(if (t135.length : Int)=5 then (if 1 < (t135.length : Int) then (if 0 < ((rd_L3 t135 1).length : Int) then (if ((rd_T31 (rd_L3 t135 1) 0).f0)=1 then (if 2 < (t135.length : Int) then (if 0 < ((rd_L3 t135 2).length : Int) then (if ((rd_T31 (rd_L3 t135 2) 0).f0)=2 then (if 4 < (t135.length : Int) then (if 0 < ((rd_L3 t135 4).length : Int) then (thresherlaw14_shown.j0 k (((rd_T31 (rd_L3 t135 4) 0).f0) == 4)) else (none)) else (none)) else (thresherlaw14_shown.j0 k false)) else (none)) else (none)) else (thresherlaw14_shown.j0 k false)) else (none)) else (none)) else (thresherlaw14_shown.j0 k false)))=some r:=by first|(rw [hy120];with_reducible exact H)|(have H2_:=(Option.bind_some _ _).symm.trans H;rw [hy120];with_reducible exact H2_)|(have H2_:=(Option.bind_some _ _).symm.trans H;with_reducible exact H2_)|with_reducible exact H|(rw [hy120];exact H)|exact H
 have Ny120:=Aside0.mk hy120
 clear hy120
 obtain ⟨y123,hy123⟩ : ∃ y_ : List (S31),y_=(([(⟨1,(⟨#[]⟩ : ByteArray)⟩ : S31)] : List (S31))):=⟨_,rfl⟩
 replace H : ((merge_Rows.f k y104 1 1 1 (([y114,y120,(([y123,(([(⟨3,(⟨#[]⟩ : ByteArray)⟩ : S31)] : List (S31)))] : List (List (S31))))] : List (List (List (S31)))))).bind fun t135=>(if (t135.length : Int)=5 then (if 1 < (t135.length : Int) then (if 0 < ((rd_L3 t135 1).length : Int) then (if ((rd_T31 (rd_L3 t135 1) 0).f0)=1 then (if 2 < (t135.length : Int) then (if 0 < ((rd_L3 t135 2).length : Int) then (if ((rd_T31 (rd_L3 t135 2) 0).f0)=2 then (if 4 < (t135.length : Int) then (if 0 < ((rd_L3 t135 4).length : Int) then (thresherlaw14_shown.j0 k (((rd_T31 (rd_L3 t135 4) 0).f0) == 4)) else (none)) else (none)) else (thresherlaw14_shown.j0 k false)) else (none)) else (none)) else (thresherlaw14_shown.j0 k false)) else (none)) else (none)) else (thresherlaw14_shown.j0 k false)))=some r:=by first|(rw [hy123];with_reducible exact H)|(have H2_:=(Option.bind_some _ _).symm.trans H;rw [hy123];with_reducible exact H2_)|(have H2_:=(Option.bind_some _ _).symm.trans H;with_reducible exact H2_)|with_reducible exact H|(rw [hy123];exact H)|exact H
 have Ny123:=Aside0.mk hy123
 clear hy123
 obtain ⟨y126,hy126⟩ : ∃ y_ : List (S31),y_=(([(⟨3,(⟨#[]⟩ : ByteArray)⟩ : S31)] : List (S31))):=⟨_,rfl⟩
 replace H : ((merge_Rows.f k y104 1 1 1 (([y114,y120,(([y123,y126] : List (List (S31))))] : List (List (List (S31)))))).bind fun t135=>(if (t135.length : Int)=5 then (if 1 < (t135.length : Int) then (if 0 < ((rd_L3 t135 1).length : Int) then (if ((rd_T31 (rd_L3 t135 1) 0).f0)=1 then (if 2 < (t135.length : Int) then (if 0 < ((rd_L3 t135 2).length : Int) then (if ((rd_T31 (rd_L3 t135 2) 0).f0)=2 then (if 4 < (t135.length : Int) then (if 0 < ((rd_L3 t135 4).length : Int) then (thresherlaw14_shown.j0 k (((rd_T31 (rd_L3 t135 4) 0).f0) == 4)) else (none)) else (none)) else (thresherlaw14_shown.j0 k false)) else (none)) else (none)) else (thresherlaw14_shown.j0 k false)) else (none)) else (none)) else (thresherlaw14_shown.j0 k false)))=some r:=by first|(rw [hy126];with_reducible exact H)|(have H2_:=(Option.bind_some _ _).symm.trans H;rw [hy126];with_reducible exact H2_)|(have H2_:=(Option.bind_some _ _).symm.trans H;with_reducible exact H2_)|with_reducible exact H|(rw [hy126];exact H)|exact H
 have Ny126:=Aside0.mk hy126
 clear hy126
 obtain ⟨y129,hy129⟩ : ∃ y_ : List (List (S31)),y_=(([y123,y126] : List (List (S31)))):=⟨_,rfl⟩
 replace H : ((merge_Rows.f k y104 1 1 1 (([y114,y120,y129] : List (List (List (S31)))))).bind fun t135=>(if (t135.length : Int)=5 then (if 1 < (t135.length : Int) then (if 0 < ((rd_L3 t135 1).length : Int) then (if ((rd_T31 (rd_L3 t135 1) 0).f0)=1 then (if 2 < (t135.length : Int) then (if 0 < ((rd_L3 t135 2).length : Int) then (if ((rd_T31 (rd_L3 t135 2) 0).f0)=2 then (if 4 < (t135.length : Int) then (if 0 < ((rd_L3 t135 4).length : Int) then (thresherlaw14_shown.j0 k (((rd_T31 (rd_L3 t135 4) 0).f0) == 4)) else (none)) else (none)) else (thresherlaw14_shown.j0 k false)) else (none)) else (none)) else (thresherlaw14_shown.j0 k false)) else (none)) else (none)) else (thresherlaw14_shown.j0 k false)))=some r:=by first|(rw [hy129];with_reducible exact H)|(have H2_:=(Option.bind_some _ _).symm.trans H;rw [hy129];with_reducible exact H2_)|(have H2_:=(Option.bind_some _ _).symm.trans H;with_reducible exact H2_)|with_reducible exact H|(rw [hy129];exact H)|exact H
 have Ny129:=Aside0.mk hy129
 clear hy129
 obtain ⟨y132,hy132⟩ : ∃ y_ : List (List (List (S31))),y_=(([y114,y120,y129] : List (List (List (S31))))):=⟨_,rfl⟩
 replace H : ((merge_Rows.f k y104 1 1 1 y132).bind fun t135=>(if (t135.length : Int)=5 then (if 1 < (t135.length : Int) then (if 0 < ((rd_L3 t135 1).length : Int) then (if ((rd_T31 (rd_L3 t135 1) 0).f0)=1 then (if 2 < (t135.length : Int) then (if 0 < ((rd_L3 t135 2).length : Int) then (if ((rd_T31 (rd_L3 t135 2) 0).f0)=2 then (if 4 < (t135.length : Int) then (if 0 < ((rd_L3 t135 4).length : Int) then (thresherlaw14_shown.j0 k (((rd_T31 (rd_L3 t135 4) 0).f0) == 4)) else (none)) else (none)) else (thresherlaw14_shown.j0 k false)) else (none)) else (none)) else (thresherlaw14_shown.j0 k false)) else (none)) else (none)) else (thresherlaw14_shown.j0 k false)))=some r:=by first|(rw [hy132];with_reducible exact H)|(have H2_:=(Option.bind_some _ _).symm.trans H;rw [hy132];with_reducible exact H2_)|(have H2_:=(Option.bind_some _ _).symm.trans H;with_reducible exact H2_)|with_reducible exact H|(rw [hy132];exact H)|exact H
 have Ny132:=Aside0.mk hy132
 clear hy132
 replace H:=Option.bind_eq_some_iff.mp H
 obtain ⟨t135,A10,H⟩:=H
 replace H : (if (t135.length : Int)=5 then (if 1 < (t135.length : Int) then (if 0 < ((rd_L3 t135 1).length : Int) then (if ((rd_T31 (rd_L3 t135 1) 0).f0)=1 then (if 2 < (t135.length : Int) then (if 0 < ((rd_L3 t135 2).length : Int) then (if ((rd_T31 (rd_L3 t135 2) 0).f0)=2 then (if 4 < (t135.length : Int) then (if 0 < ((rd_L3 t135 4).length : Int) then (thresherlaw14_shown.j0 k (((rd_T31 (rd_L3 t135 4) 0).f0) == 4)) else (none)) else (none)) else (thresherlaw14_shown.j0 k false)) else (none)) else (none)) else (thresherlaw14_shown.j0 k false)) else (none)) else (none)) else (thresherlaw14_shown.j0 k false))=some r:=H
 have A1:=Aside0.mk A10
 clear A10
 have HC2:=Aside0.mk H
 clear H
 go_enter Try.func8,Try.ntmps8
 go_upto_region 3 with (first|((with_reducible refine gate_dst (N:=3) rfl ?_);refine Kd.R_lit (Kd.int .i64) _ 3 ?hg (N:=3) ?hd (xs:=([1] : List Int)) (inner:=[.int .i64 1]) (ok:=fun _=>True) (okp:=fun _=>True) ?hr ?hp (fun _ hk=>hk) trivial (Below.refl _ _) (Nat.le_refl _) (by simp) ?_;(case hd=>rfl);(case hg=>rfl);(case hr=>first|(go_simp;done)|(go_simp;rfl));(case hp=>exact (Reps.one (show Kd.M (Kd.int .i64) _ _ _ 1 [.int .i64 1] from rfl) (Reps.none _ _)));intro v105 w3 ho4 hb hg_ hnew_;clear hg_ hnew_;(first|rw [← Ny104.out] at ho4|(simp only [Int.reduceToNat] at ho4;rw [← Ny104.out] at ho4));have n0_:=Aside0.mk (Kd.R_lower ho4 (below_size (below_up HB.out)));have n1_:=Aside0.mk (below_step (below_up HB.out) hb);clear HB;have HO106:=n0_;have HB:=n1_;clear n0_ n1_;clear hb ho4;obtain ⟨Ao5,co5,eo5⟩:=Kd.R_slice HO106.out;subst eo5)|((with_reducible refine gate_dst (N:=1) rfl ?_);refine box_event ?hg (N:=1) ?hd (cs:=#[.slice none 0 0,.int .i64 0,.int .i64 0,.int .i64 0]) (t:=26) ?hr ?_;(case hd=>rfl);(case hg=>rfl);(case hr=>first|(go_simp;done)|(go_simp;rfl));intro gb107 hg w6 hbox hb;have n0_:=Aside0.mk (Kd.R_below (R_up HO106.out) hb);have n1_:=Aside0.mk (below_step (below_up HB.out) hb);have n2_:=Aside0.mk (hbox);have n3_:=Aside0.mk ((by rw [hg];exact (below_size (below_up HB.out)) : w.heap.size≤gb107));have n4_:=Aside0.mk ((by rw [hg];exact (below_size (below_up HB.out)) : w.heap.size≤gb107));clear HO106;clear HB;have HO106:=n0_;have HB:=n1_;have BK107:=n2_;have GW107:=n3_;have GE107:=n4_;clear n0_ n1_ n2_ n3_ n4_;clear hb hbox hg;have hcz7_0 : w6.cell? ⟨gb107,0,none⟩=some (.slice none 0 0):=(blk_cell BK107.out 0).trans rfl;have hcz7_1 : w6.cell? ⟨gb107,1,none⟩=some (.int .i64 0):=(blk_cell BK107.out 1).trans rfl;have hcz7_2 : w6.cell? ⟨gb107,2,none⟩=some (.int .i64 0):=(blk_cell BK107.out 2).trans rfl;have hcz7_3 : w6.cell? ⟨gb107,3,none⟩=some (.int .i64 0):=(blk_cell BK107.out 3).trans rfl;have hfz7_0:=blk_frozen BK107.out 0;have hfz7_1:=blk_frozen BK107.out 1;have hfz7_2:=blk_frozen BK107.out 2;have hfz7_3:=blk_frozen BK107.out 3)|((with_reducible refine gate_dst (N:=7) rfl ?_);refine Kd.R_lit k31 _ 31 ?hg (N:=7) ?hd (xs:=([(⟨1,(⟨#[]⟩ : ByteArray)⟩ : S31)] : List (S31))) (inner:=[.int .i64 1,.string (⟨#[]⟩ : ByteArray)]) (ok:=fun _=>True) (okp:=fun _=>True) ?hr ?hp (fun _ hk=>hk) trivial (Below.refl _ _) (Nat.le_refl _) (by simp) ?_;(case hd=>rfl);(case hg=>rfl);(case hr=>first|(go_simp;done)|(go_simp;rfl));(case hp=>exact (Reps.c2 (show Kd.M k31 _ _ _ (⟨1,(⟨#[]⟩ : ByteArray)⟩ : S31) [.int .i64 1,.string (⟨#[]⟩ : ByteArray)] from (k31_mkM _ _ _ (⟨1,(⟨#[]⟩ : ByteArray)⟩ : S31) )) (Reps.none _ _)));intro v109 w8 ho9 hb hg_ hnew_;clear hg_ hnew_;(first|rw [← Ny108.out] at ho9|(simp only [Int.reduceToNat] at ho9;rw [← Ny108.out] at ho9));have n0_:=Aside0.mk (Kd.R_below (by (with_reducible repeat (first|apply Kd.R_alloc|apply Kd.R_drewN|apply Kd.R_drew));exact (Kd.R_mono (Kd.R_far (p:=⟨gb107,3,none⟩) (Kd.R_far (p:=⟨gb107,2,none⟩) (Kd.R_far (p:=⟨gb107,1,none⟩) (Kd.R_far (p:=⟨gb107,0,none⟩) (Kd.R_types HO106.out BK107.out (by decide)) (fun _ hk=>hk.2) (.slice Ao5 y104.length co5)) (fun _ hk=>hk.2) (.int .i64 1)) (fun _ hk=>hk.2) (.int .i64 1)) (fun _ hk=>hk.2) (.int .i64 1)) (fun _ h_=>h_.1))) hb);have n1_:=Aside0.mk (Kd.R_lower ho9 (below_size (below_go HB.out)));have n2_:=Aside0.mk (blk_below (g:=gb107) (o:=.cells #[.slice Ao5 y104.length co5,.int .i64 1,.int .i64 1,.int .i64 1] 26 (0,0)) (by (with_reducible repeat (first|refine blk_drewN ?_ _|refine blk_drew ?_|refine blk_alloc ?_ _));refine blk_put (cs:=#[.slice Ao5 y104.length co5,.int .i64 1,.int .i64 1,.int .i64 0]) ?_ 3 _ rfl;(with_reducible repeat (first|refine blk_drewN ?_ _|refine blk_drew ?_|refine blk_alloc ?_ _));refine blk_put (cs:=#[.slice Ao5 y104.length co5,.int .i64 1,.int .i64 0,.int .i64 0]) ?_ 2 _ rfl;(with_reducible repeat (first|refine blk_drewN ?_ _|refine blk_drew ?_|refine blk_alloc ?_ _));refine blk_put (cs:=#[.slice Ao5 y104.length co5,.int .i64 0,.int .i64 0,.int .i64 0]) ?_ 1 _ rfl;(with_reducible repeat (first|refine blk_drewN ?_ _|refine blk_drew ?_|refine blk_alloc ?_ _));refine blk_put (cs:=#[.slice none 0 0,.int .i64 0,.int .i64 0,.int .i64 0]) ?_ 0 _ rfl;(with_reducible repeat (first|refine blk_drewN ?_ _|refine blk_drew ?_|refine blk_alloc ?_ _));exact BK107.out) hb);have n3_:=Aside0.mk (below_step (below_go HB.out) hb);clear HO106;clear BK107;clear HB;have HO106:=n0_;have HO110:=n1_;have BK107:=n2_;have HB:=n3_;clear n0_ n1_ n2_ n3_;clear hb ho9)|((with_reducible refine gate_dst (N:=9) rfl ?_);refine Kd.R_lit k31 _ 31 ?hg (N:=9) ?hd (xs:=([(⟨4,(⟨#[]⟩ : ByteArray)⟩ : S31)] : List (S31))) (inner:=[.int .i64 4,.string (⟨#[]⟩ : ByteArray)]) (ok:=fun _=>True) (okp:=fun _=>True) ?hr ?hp (fun _ hk=>hk) trivial (Below.refl _ _) (Nat.le_refl _) (by simp) ?_;(case hd=>rfl);(case hg=>rfl);(case hr=>first|(go_simp;done)|(go_simp;rfl));(case hp=>exact (Reps.c2 (show Kd.M k31 _ _ _ (⟨4,(⟨#[]⟩ : ByteArray)⟩ : S31) [.int .i64 4,.string (⟨#[]⟩ : ByteArray)] from (k31_mkM _ _ _ (⟨4,(⟨#[]⟩ : ByteArray)⟩ : S31) )) (Reps.none _ _)));intro v112 w10 ho11 hb hg_ hnew_;clear hg_ hnew_;(first|rw [← Ny111.out] at ho11|(simp only [Int.reduceToNat] at ho11;rw [← Ny111.out] at ho11));have n0_:=Aside0.mk (Kd.R_below (R_up HO106.out) hb);have n1_:=Aside0.mk (Kd.R_elder' (R_up HO110.out) (Kd.R_base ho11) hb);have n2_:=Aside0.mk (Kd.R_lower (Kd.R_new' ho11 (Kd.R_lt (R_up HO110.out))) (below_size (below_go HB.out)));have n3_:=Aside0.mk (blk_below (blk_up BK107.out) hb);have n4_:=Aside0.mk (below_step (below_go HB.out) hb);clear HO106;clear HO110;clear BK107;clear HB;have HO106:=n0_;have HO110:=n1_;have HO113:=n2_;have BK107:=n3_;have HB:=n4_;clear n0_ n1_ n2_ n3_ n4_;clear hb ho11;obtain ⟨Ao12,co12,eo12⟩:=Kd.R_slice HO110.out;subst eo12;obtain ⟨Ao13,co13,eo13⟩:=Kd.R_slice HO113.out;subst eo13)|((with_reducible refine gate_dst (N:=10) rfl ?_);refine Kd.N_lit (Kd.slice 31 k31) _ 33 ?hg (N':=10) ?hd (xs:=([y108,y111] : List (List (S31)))) (inner:=[.slice Ao12 y108.length co12,.slice Ao13 y111.length co13]) (ok:=(fun k_=>some k_≠(.slice Ao5 y104.length co5 : Value).ownBlock∧k_≠gb107)) (okp:=(fun k_=>some k_≠(.slice Ao5 y104.length co5 : Value).ownBlock∧k_≠gb107)) ?hr ?hp (fun _ hk=>hk) ((show ∀ k_,w10.heap.size≤k_→(fun k_=>some k_≠(.slice Ao5 y104.length co5 : Value).ownBlock∧k_≠gb107) k_ from fun k_ hk=>⟨Kd.fresh' (Kd.R_lt (R_up HO106.out)) k_ hk,Kd.freshB (blk_up BK107.out) k_ hk⟩) _ (Nat.le_refl _)) (Below.refl _ _) (Nat.le_refl _) (by simp) ?_;(case hd=>rfl);(case hg=>rfl);(case hr=>first|(go_simp;done)|(go_simp;rfl));(case hp=>exact (Reps.one (show Kd.FK (Kd.slice 31 k31) _ _ y108 [.slice Ao12 y108.length co12] from (Kd.FK_slice_mk (Kd.R_reads' (Kd.R_mono (ok':=(fun k_=>some k_≠(.slice Ao5 y104.length co5 : Value).ownBlock∧k_≠gb107)) (Kd.R_types (Kd.R_apart' (HO110.out) (Kd.R_typed HO106.out) (by decide)) BK107.out (by decide)) (fun k_ hk=>⟨hk.1.2,hk.2⟩))).2.1 (Kd.R_F (Kd.R_mono (ok':=(fun k_=>some k_≠(.slice Ao5 y104.length co5 : Value).ownBlock∧k_≠gb107)) (Kd.R_types (Kd.R_apart' (HO110.out) (Kd.R_typed HO106.out) (by decide)) BK107.out (by decide)) (fun k_ hk=>⟨hk.1.2,hk.2⟩))))) (Reps.one (show Kd.FK (Kd.slice 31 k31) _ _ y111 [.slice Ao13 y111.length co13] from (Kd.FK_slice_mk (Kd.R_reads' (Kd.R_mono (ok':=(fun k_=>some k_≠(.slice Ao5 y104.length co5 : Value).ownBlock∧k_≠gb107)) (Kd.R_types (Kd.R_apart' (HO113.out) (Kd.R_typed HO106.out) (by decide)) BK107.out (by decide)) (fun k_ hk=>⟨hk.1.2,hk.2⟩))).2.1 (Kd.R_F (Kd.R_mono (ok':=(fun k_=>some k_≠(.slice Ao5 y104.length co5 : Value).ownBlock∧k_≠gb107)) (Kd.R_types (Kd.R_apart' (HO113.out) (Kd.R_typed HO106.out) (by decide)) BK107.out (by decide)) (fun k_ hk=>⟨hk.1.2,hk.2⟩))))) (Reps.none _ _))));intro v115 w14 ho15 hb hg_ hnew_;clear hg_ hnew_;(first|rw [← Ny114.out] at ho15|(simp only [Int.reduceToNat] at ho15;rw [← Ny114.out] at ho15));have n0_:=Aside0.mk (Kd.R_below (R_up HO106.out) hb);have n1_:=Aside0.mk (Kd.N_lower ho15 (below_size (below_go HB.out)));have n2_:=Aside0.mk (blk_below (blk_up BK107.out) hb);have n3_:=Aside0.mk (below_step (below_go HB.out) hb);clear HO106;clear BK107;clear HB;clear HO110;clear HO113;have HO106:=n0_;have HO116:=n1_;have BK107:=n2_;have HB:=n3_;clear n0_ n1_ n2_ n3_;clear hb ho15)|((with_reducible refine gate_dst (N:=12) rfl ?_);refine Kd.R_lit k31 _ 31 ?hg (N:=12) ?hd (xs:=([(⟨2,(⟨#[]⟩ : ByteArray)⟩ : S31)] : List (S31))) (inner:=[.int .i64 2,.string (⟨#[]⟩ : ByteArray)]) (ok:=fun _=>True) (okp:=fun _=>True) ?hr ?hp (fun _ hk=>hk) trivial (Below.refl _ _) (Nat.le_refl _) (by simp) ?_;(case hd=>rfl);(case hg=>rfl);(case hr=>first|(go_simp;done)|(go_simp;rfl));(case hp=>exact (Reps.c2 (show Kd.M k31 _ _ _ (⟨2,(⟨#[]⟩ : ByteArray)⟩ : S31) [.int .i64 2,.string (⟨#[]⟩ : ByteArray)] from (k31_mkM _ _ _ (⟨2,(⟨#[]⟩ : ByteArray)⟩ : S31) )) (Reps.none _ _)));intro v118 w16 ho17 hb hg_ hnew_;clear hg_ hnew_;(first|rw [← Ny117.out] at ho17|(simp only [Int.reduceToNat] at ho17;rw [← Ny117.out] at ho17));have n0_:=Aside0.mk (Kd.R_below (R_up HO106.out) hb);have n1_:=Aside0.mk (Kd.N_elder' (N_up HO116.out) (Kd.R_base ho17) hb);have n2_:=Aside0.mk (Kd.R_lower ho17 (below_size (below_go HB.out)));have n3_:=Aside0.mk (blk_below (blk_up BK107.out) hb);have n4_:=Aside0.mk (below_step (below_go HB.out) hb);clear HO106;clear HO116;clear BK107;clear HB;have HO106:=n0_;have HO116:=n1_;have HO119:=n2_;have BK107:=n3_;have HB:=n4_;clear n0_ n1_ n2_ n3_ n4_;clear hb ho17;obtain ⟨Ao18,co18,eo18⟩:=Kd.R_slice HO119.out;subst eo18)|((with_reducible refine gate_dst (N:=13) rfl ?_);refine Kd.N_lit (Kd.slice 31 k31) _ 33 ?hg (N':=13) ?hd (xs:=([y117] : List (List (S31)))) (inner:=[.slice Ao18 y117.length co18]) (ok:=(fun k_=>some k_≠(.slice Ao5 y104.length co5 : Value).ownBlock∧some k_≠(v115 : Value).ownBlock∧k_≠gb107)) (okp:=(fun k_=>some k_≠(.slice Ao5 y104.length co5 : Value).ownBlock∧some k_≠(v115 : Value).ownBlock∧k_≠gb107)) ?hr ?hp (fun _ hk=>hk) ((show ∀ k_,w16.heap.size≤k_→(fun k_=>some k_≠(.slice Ao5 y104.length co5 : Value).ownBlock∧some k_≠(v115 : Value).ownBlock∧k_≠gb107) k_ from fun k_ hk=>⟨Kd.fresh' (Kd.R_lt (R_up HO106.out)) k_ hk,Kd.fresh' (Kd.N_lt (N_up HO116.out)) k_ hk,Kd.freshB (blk_up BK107.out) k_ hk⟩) _ (Nat.le_refl _)) (Below.refl _ _) (Nat.le_refl _) (by simp) ?_;(case hd=>rfl);(case hg=>rfl);(case hr=>first|(go_simp;done)|(go_simp;rfl));(case hp=>exact (Reps.one (show Kd.FK (Kd.slice 31 k31) _ _ y117 [.slice Ao18 y117.length co18] from (Kd.FK_slice_mk (Kd.R_reads' (Kd.R_mono (ok':=(fun k_=>some k_≠(.slice Ao5 y104.length co5 : Value).ownBlock∧some k_≠(v115 : Value).ownBlock∧k_≠gb107)) (Kd.R_types (Kd.R_apart' (Kd.R_apart' (HO119.out) (Kd.R_typed HO106.out) (by decide)) (Kd.N_typed HO116.out) (by decide)) BK107.out (by decide)) (fun k_ hk=>⟨hk.1.1.2,⟨hk.1.2,hk.2⟩⟩))).2.1 (Kd.R_F (Kd.R_mono (ok':=(fun k_=>some k_≠(.slice Ao5 y104.length co5 : Value).ownBlock∧some k_≠(v115 : Value).ownBlock∧k_≠gb107)) (Kd.R_types (Kd.R_apart' (Kd.R_apart' (HO119.out) (Kd.R_typed HO106.out) (by decide)) (Kd.N_typed HO116.out) (by decide)) BK107.out (by decide)) (fun k_ hk=>⟨hk.1.1.2,⟨hk.1.2,hk.2⟩⟩))))) (Reps.none _ _)));intro v121 w19 ho20 hb hg_ hnew_;clear hg_ hnew_;(first|rw [← Ny120.out] at ho20|(simp only [Int.reduceToNat] at ho20;rw [← Ny120.out] at ho20));have n0_:=Aside0.mk (Kd.R_below (R_up HO106.out) hb);have n1_:=Aside0.mk (Kd.N_elder' (N_up HO116.out) (Kd.N_base ho20) hb);have n2_:=Aside0.mk (Kd.N_lower ho20 (below_size (below_go HB.out)));have n3_:=Aside0.mk (blk_below (blk_up BK107.out) hb);have n4_:=Aside0.mk (below_step (below_go HB.out) hb);clear HO106;clear HO116;clear BK107;clear HB;clear HO119;have HO106:=n0_;have HO116:=n1_;have HO122:=n2_;have BK107:=n3_;have HB:=n4_;clear n0_ n1_ n2_ n3_ n4_;clear hb ho20)|((with_reducible refine gate_dst (N:=15) rfl ?_);refine Kd.R_lit k31 _ 31 ?hg (N:=15) ?hd (xs:=([(⟨1,(⟨#[]⟩ : ByteArray)⟩ : S31)] : List (S31))) (inner:=[.int .i64 1,.string (⟨#[]⟩ : ByteArray)]) (ok:=fun _=>True) (okp:=fun _=>True) ?hr ?hp (fun _ hk=>hk) trivial (Below.refl _ _) (Nat.le_refl _) (by simp) ?_;(case hd=>rfl);(case hg=>rfl);(case hr=>first|(go_simp;done)|(go_simp;rfl));(case hp=>exact (Reps.c2 (show Kd.M k31 _ _ _ (⟨1,(⟨#[]⟩ : ByteArray)⟩ : S31) [.int .i64 1,.string (⟨#[]⟩ : ByteArray)] from (k31_mkM _ _ _ (⟨1,(⟨#[]⟩ : ByteArray)⟩ : S31) )) (Reps.none _ _)));intro v124 w21 ho22 hb hg_ hnew_;clear hg_ hnew_;(first|rw [← Ny123.out] at ho22|(simp only [Int.reduceToNat] at ho22;rw [← Ny123.out] at ho22));have n0_:=Aside0.mk (Kd.R_below (R_up HO106.out) hb);have n1_:=Aside0.mk (Kd.N_elder' (N_up HO116.out) (Kd.R_base ho22) hb);have n2_:=Aside0.mk (Kd.N_elder' (N_up HO122.out) (Kd.R_base ho22) hb);have n3_:=Aside0.mk (Kd.R_lower ho22 (below_size (below_go HB.out)));have n4_:=Aside0.mk (blk_below (blk_up BK107.out) hb);have n5_:=Aside0.mk (below_step (below_go HB.out) hb);clear HO106;clear HO116;clear HO122;clear BK107;clear HB;have HO106:=n0_;have HO116:=n1_;have HO122:=n2_;have HO125:=n3_;have BK107:=n4_;have HB:=n5_;clear n0_ n1_ n2_ n3_ n4_ n5_;clear hb ho22)|((with_reducible refine gate_dst (N:=17) rfl ?_);refine Kd.R_lit k31 _ 31 ?hg (N:=17) ?hd (xs:=([(⟨3,(⟨#[]⟩ : ByteArray)⟩ : S31)] : List (S31))) (inner:=[.int .i64 3,.string (⟨#[]⟩ : ByteArray)]) (ok:=fun _=>True) (okp:=fun _=>True) ?hr ?hp (fun _ hk=>hk) trivial (Below.refl _ _) (Nat.le_refl _) (by simp) ?_;(case hd=>rfl);(case hg=>rfl);(case hr=>first|(go_simp;done)|(go_simp;rfl));(case hp=>exact (Reps.c2 (show Kd.M k31 _ _ _ (⟨3,(⟨#[]⟩ : ByteArray)⟩ : S31) [.int .i64 3,.string (⟨#[]⟩ : ByteArray)] from (k31_mkM _ _ _ (⟨3,(⟨#[]⟩ : ByteArray)⟩ : S31) )) (Reps.none _ _)));intro v127 w23 ho24 hb hg_ hnew_;clear hg_ hnew_;(first|rw [← Ny126.out] at ho24|(simp only [Int.reduceToNat] at ho24;rw [← Ny126.out] at ho24));have n0_:=Aside0.mk (Kd.R_below (R_up HO106.out) hb);have n1_:=Aside0.mk (Kd.N_elder' (N_up HO116.out) (Kd.R_base ho24) hb);have n2_:=Aside0.mk (Kd.N_elder' (N_up HO122.out) (Kd.R_base ho24) hb);have n3_:=Aside0.mk (Kd.R_elder' (R_up HO125.out) (Kd.R_base ho24) hb);have n4_:=Aside0.mk (Kd.R_lower (Kd.R_new' ho24 (Kd.R_lt (R_up HO125.out))) (below_size (below_go HB.out)));have n5_:=Aside0.mk (blk_below (blk_up BK107.out) hb);have n6_:=Aside0.mk (below_step (below_go HB.out) hb);clear HO106;clear HO116;clear HO122;clear HO125;clear BK107;clear HB;have HO106:=n0_;have HO116:=n1_;have HO122:=n2_;have HO125:=n3_;have HO128:=n4_;have BK107:=n5_;have HB:=n6_;clear n0_ n1_ n2_ n3_ n4_ n5_ n6_;clear hb ho24;obtain ⟨Ao25,co25,eo25⟩:=Kd.R_slice HO125.out;subst eo25;obtain ⟨Ao26,co26,eo26⟩:=Kd.R_slice HO128.out;subst eo26)|((with_reducible refine gate_dst (N:=18) rfl ?_);refine Kd.N_lit (Kd.slice 31 k31) _ 33 ?hg (N':=18) ?hd (xs:=([y123,y126] : List (List (S31)))) (inner:=[.slice Ao25 y123.length co25,.slice Ao26 y126.length co26]) (ok:=(fun k_=>some k_≠(.slice Ao5 y104.length co5 : Value).ownBlock∧some k_≠(v115 : Value).ownBlock∧some k_≠(v121 : Value).ownBlock∧k_≠gb107)) (okp:=(fun k_=>some k_≠(.slice Ao5 y104.length co5 : Value).ownBlock∧some k_≠(v115 : Value).ownBlock∧some k_≠(v121 : Value).ownBlock∧k_≠gb107)) ?hr ?hp (fun _ hk=>hk) ((show ∀ k_,w23.heap.size≤k_→(fun k_=>some k_≠(.slice Ao5 y104.length co5 : Value).ownBlock∧some k_≠(v115 : Value).ownBlock∧some k_≠(v121 : Value).ownBlock∧k_≠gb107) k_ from fun k_ hk=>⟨Kd.fresh' (Kd.R_lt (R_up HO106.out)) k_ hk,Kd.fresh' (Kd.N_lt (N_up HO116.out)) k_ hk,Kd.fresh' (Kd.N_lt (N_up HO122.out)) k_ hk,Kd.freshB (blk_up BK107.out) k_ hk⟩) _ (Nat.le_refl _)) (Below.refl _ _) (Nat.le_refl _) (by simp) ?_;(case hd=>rfl);(case hg=>rfl);(case hr=>first|(go_simp;done)|(go_simp;rfl));(case hp=>exact (Reps.one (show Kd.FK (Kd.slice 31 k31) _ _ y123 [.slice Ao25 y123.length co25] from (Kd.FK_slice_mk (Kd.R_reads' (Kd.R_mono (ok':=(fun k_=>some k_≠(.slice Ao5 y104.length co5 : Value).ownBlock∧some k_≠(v115 : Value).ownBlock∧some k_≠(v121 : Value).ownBlock∧k_≠gb107)) (Kd.R_types (Kd.R_apart' (Kd.R_apart' (Kd.R_apart' (HO125.out) (Kd.R_typed HO106.out) (by decide)) (Kd.N_typed HO116.out) (by decide)) (Kd.N_typed HO122.out) (by decide)) BK107.out (by decide)) (fun k_ hk=>⟨hk.1.1.1.2,⟨hk.1.1.2,⟨hk.1.2,hk.2⟩⟩⟩))).2.1 (Kd.R_F (Kd.R_mono (ok':=(fun k_=>some k_≠(.slice Ao5 y104.length co5 : Value).ownBlock∧some k_≠(v115 : Value).ownBlock∧some k_≠(v121 : Value).ownBlock∧k_≠gb107)) (Kd.R_types (Kd.R_apart' (Kd.R_apart' (Kd.R_apart' (HO125.out) (Kd.R_typed HO106.out) (by decide)) (Kd.N_typed HO116.out) (by decide)) (Kd.N_typed HO122.out) (by decide)) BK107.out (by decide)) (fun k_ hk=>⟨hk.1.1.1.2,⟨hk.1.1.2,⟨hk.1.2,hk.2⟩⟩⟩))))) (Reps.one (show Kd.FK (Kd.slice 31 k31) _ _ y126 [.slice Ao26 y126.length co26] from (Kd.FK_slice_mk (Kd.R_reads' (Kd.R_mono (ok':=(fun k_=>some k_≠(.slice Ao5 y104.length co5 : Value).ownBlock∧some k_≠(v115 : Value).ownBlock∧some k_≠(v121 : Value).ownBlock∧k_≠gb107)) (Kd.R_types (Kd.R_apart' (Kd.R_apart' (Kd.R_apart' (HO128.out) (Kd.R_typed HO106.out) (by decide)) (Kd.N_typed HO116.out) (by decide)) (Kd.N_typed HO122.out) (by decide)) BK107.out (by decide)) (fun k_ hk=>⟨hk.1.1.1.2,⟨hk.1.1.2,⟨hk.1.2,hk.2⟩⟩⟩))).2.1 (Kd.R_F (Kd.R_mono (ok':=(fun k_=>some k_≠(.slice Ao5 y104.length co5 : Value).ownBlock∧some k_≠(v115 : Value).ownBlock∧some k_≠(v121 : Value).ownBlock∧k_≠gb107)) (Kd.R_types (Kd.R_apart' (Kd.R_apart' (Kd.R_apart' (HO128.out) (Kd.R_typed HO106.out) (by decide)) (Kd.N_typed HO116.out) (by decide)) (Kd.N_typed HO122.out) (by decide)) BK107.out (by decide)) (fun k_ hk=>⟨hk.1.1.1.2,⟨hk.1.1.2,⟨hk.1.2,hk.2⟩⟩⟩))))) (Reps.none _ _))));intro v130 w27 ho28 hb hg_ hnew_;clear hg_ hnew_;(first|rw [← Ny129.out] at ho28|(simp only [Int.reduceToNat] at ho28;rw [← Ny129.out] at ho28));have n0_:=Aside0.mk (Kd.R_below (R_up HO106.out) hb);have n1_:=Aside0.mk (Kd.N_elder' (N_up HO116.out) (Kd.N_base ho28) hb);have n2_:=Aside0.mk (Kd.N_elder' (N_up HO122.out) (Kd.N_base ho28) hb);have n3_:=Aside0.mk (Kd.N_lower ho28 (below_size (below_go HB.out)));have n4_:=Aside0.mk (blk_below (blk_up BK107.out) hb);have n5_:=Aside0.mk (below_step (below_go HB.out) hb);clear HO106;clear HO116;clear HO122;clear BK107;clear HB;clear HO125;clear HO128;have HO106:=n0_;have HO116:=n1_;have HO122:=n2_;have HO131:=n3_;have BK107:=n4_;have HB:=n5_;clear n0_ n1_ n2_ n3_ n4_ n5_;clear hb ho28;obtain ⟨Ao29,co29,eo29⟩:=Kd.N_slice HO116.out;subst eo29;obtain ⟨Ao30,co30,eo30⟩:=Kd.N_slice HO122.out;subst eo30;obtain ⟨Ao31,co31,eo31⟩:=Kd.N_slice HO131.out;subst eo31)|((with_reducible refine gate_dst (N:=19) rfl ?_);refine Kd.N_lit (Kd.slice 33 (Kd.slice 31 k31)) _ 28 ?hg (N':=19) ?hd (xs:=([y114,y120,y129] : List (List (List (S31))))) (inner:=[.slice Ao29 y114.length co29,.slice Ao30 y120.length co30,.slice Ao31 y129.length co31]) (ok:=(fun k_=>some k_≠(.slice Ao5 y104.length co5 : Value).ownBlock∧k_≠gb107)) (okp:=(fun k_=>some k_≠(.slice Ao5 y104.length co5 : Value).ownBlock∧k_≠gb107)) ?hr ?hp (fun _ hk=>hk) ((show ∀ k_,w27.heap.size≤k_→(fun k_=>some k_≠(.slice Ao5 y104.length co5 : Value).ownBlock∧k_≠gb107) k_ from fun k_ hk=>⟨Kd.fresh' (Kd.R_lt (R_up HO106.out)) k_ hk,Kd.freshB (blk_up BK107.out) k_ hk⟩) _ (Nat.le_refl _)) (Below.refl _ _) (Nat.le_refl _) (by simp) ?_;(case hd=>rfl);(case hg=>rfl);(case hr=>first|(go_simp;done)|(go_simp;rfl));(case hp=>exact (Reps.one (show Kd.FK (Kd.slice 33 (Kd.slice 31 k31)) _ _ y114 [.slice Ao29 y114.length co29] from (Kd.FK_slice_mk (Kd.N_reads' (Kd.N_mono (ok':=(fun k_=>some k_≠(.slice Ao5 y104.length co5 : Value).ownBlock∧k_≠gb107)) (HO116.out) (fun k_ hk=>⟨hk.1.1.1.1.1.1,hk.1.1.1.1.1.2⟩))).2.1 (Kd.N_F (Kd.N_mono (ok':=(fun k_=>some k_≠(.slice Ao5 y104.length co5 : Value).ownBlock∧k_≠gb107)) (HO116.out) (fun k_ hk=>⟨hk.1.1.1.1.1.1,hk.1.1.1.1.1.2⟩))))) (Reps.one (show Kd.FK (Kd.slice 33 (Kd.slice 31 k31)) _ _ y120 [.slice Ao30 y120.length co30] from (Kd.FK_slice_mk (Kd.N_reads' (Kd.N_mono (ok':=(fun k_=>some k_≠(.slice Ao5 y104.length co5 : Value).ownBlock∧k_≠gb107)) (HO122.out) (fun k_ hk=>⟨hk.1.1.1.1,hk.1.1.1.2.2⟩))).2.1 (Kd.N_F (Kd.N_mono (ok':=(fun k_=>some k_≠(.slice Ao5 y104.length co5 : Value).ownBlock∧k_≠gb107)) (HO122.out) (fun k_ hk=>⟨hk.1.1.1.1,hk.1.1.1.2.2⟩))))) (Reps.one (show Kd.FK (Kd.slice 33 (Kd.slice 31 k31)) _ _ y129 [.slice Ao31 y129.length co31] from (Kd.FK_slice_mk (Kd.N_reads' (Kd.N_mono (ok':=(fun k_=>some k_≠(.slice Ao5 y104.length co5 : Value).ownBlock∧k_≠gb107)) (HO131.out) (fun k_ hk=>⟨hk.1,hk.2.2.2⟩))).2.1 (Kd.N_F (Kd.N_mono (ok':=(fun k_=>some k_≠(.slice Ao5 y104.length co5 : Value).ownBlock∧k_≠gb107)) (HO131.out) (fun k_ hk=>⟨hk.1,hk.2.2.2⟩))))) (Reps.none _ _)))));intro v133 w32 ho33 hb hg_ hnew_;clear hg_ hnew_;(first|rw [← Ny132.out] at ho33|(simp only [Int.reduceToNat] at ho33;rw [← Ny132.out] at ho33));have n0_:=Aside0.mk (Kd.R_below (R_up HO106.out) hb);have n1_:=Aside0.mk (Kd.N_lower ho33 (below_size (below_go HB.out)));have n2_:=Aside0.mk (blk_below (blk_up BK107.out) hb);have n3_:=Aside0.mk (below_step (below_go HB.out) hb);clear HO106;clear BK107;clear HB;clear HO116;clear HO122;clear HO131;have HO106:=n0_;have HO134:=n1_;have BK107:=n2_;have HB:=n3_;clear n0_ n1_ n2_ n3_;clear hb ho33;obtain ⟨Ao34,co34,eo34⟩:=Kd.N_slice HO134.out;subst eo34)|((with_reducible refine gate_callee (f:=9) rfl ?_);refine goesL_ (some 20) rfl rfl Try.func9 (by kernel_rfl) rfl #[.agg #[.slice Ao5 y104.length co5,.int .i64 1,.int .i64 1,.int .i64 1],.slice Ao34 y132.length co34] rfl (by (try simp only [List.map_toArray,List.map_cons,List.map_nil]);first|done|rfl|(simp only [List.length_drop,List.length_take];rfl)) ?_;(with_reducible refine (merge_Rows.calls k _ _ y104 1 1 1 (fun k_=>(some k_≠(.slice Ao5 y104.length co5 : Value).ownBlock∧k_≠gb107)) _ _ y132 t135 _ ?side1 ?side2 ?side3 A1.out).mono ?_);(case side1=>repeat (first|exact (Kd.R_reads' HO106.out).2.2|(with_reducible refine Kd.C_alloc ?_ _)|(with_reducible refine Kd.C_drewN ?_ _)|(with_reducible refine Kd.C_drew ?_)));(case side2=>exact (Kd.R_reads' HO106.out).2.1);(case side3=>exact Kd.N_V (HO134.out));rintro e w35 ⟨v136,rfl,ho0,hb⟩;refine ⟨_,rfl,?_⟩;have n0_:=Aside0.mk (Kd.R_below (R_up HO106.out) hb);have n1_:=Aside0.mk (Kd.N_elder' (N_up HO134.out) (by first|exact Kd.N_base ho0|exact Kd.S_base ho0) hb);have n2_:=Aside0.mk (Kd.N_lower (Kd.N_mono (ok':=fun k_=>some k_≠(.slice Ao5 y104.length co5 : Value).ownBlock∧k_≠gb107) ho0 (fun k_ hk_=>⟨Or.elim hk_ (fun hs_=>hs_.1) (fun hn_=>(Kd.fresh' (Kd.R_lt (R_up HO106.out)) k_ hn_)),Or.elim hk_ (fun hs_=>hs_.2) (fun hn_=>(Kd.freshB (blk_up BK107.out) k_ hn_))⟩)) (below_size (below_go HB.out)));have n3_:=Aside0.mk (blk_below (blk_up BK107.out) hb);have n4_:=Aside0.mk (below_step (below_go HB.out) hb);clear HO106;clear HO134;clear BK107;clear HB;have HO106:=n0_;have HO134:=n1_;have HO137:=n2_;have BK107:=n3_;have HB:=n4_;clear n0_ n1_ n2_ n3_ n4_;(try clear hb);(try clear hb2);(try clear hk);(try clear hi);(try clear ho0)))
 (try simp only [Act.put,List.setIfInBounds_toArray,List.set_cons_zero,List.set_cons_succ])
 go_cut [0] (fun v0 wc=>∃ (kq : Nat) (x0_1 : Bool),v0=.bool x0_1∧Aside0 (thresherlaw14_shown.j0 kq x0_1=some r)∧Aside0 (kq≤k)∧Aside0 (Kd.R (Kd.int .i64) 3 wc w.heap.size (fun _=>True) (.slice Ao5 y104.length co5) y104)∧Aside0 (wc.heap[gb107]?=some (.cells #[(.slice Ao5 y104.length co5),.int .i64 1,.int .i64 1,.int .i64 1] 26 (0,0)))∧Aside0 (Below w.heap.size w wc))
 case first =>
  have H:=HC2.out
  clear HC2
  by_cases c36 : (t135.length : Int)=5
  ·rw [if_pos c36] at H
   have c36b0 : ((t135.length : Int) == 5)=true:=beq_iff_eq.mpr c36
   have c36b1 : ((t135.length : Int) != 5)=false:=bne_eq_false_iff_eq.mpr c36
   clear c36
   (first|rw [c36b0]|(simp only [i64_w,i32_w];rw [c36b0])|skip)
   by_cases c37 : 1 < (t135.length : Int)
   ·rw [if_pos c37] at H
    have c37b0 : decide (1 < (t135.length : Int))=true:=decide_eq_true c37
    have c37b1 : decide (1 < t135.length)=true:=decide_eq_true (by omega)
    clear c37
    by_cases c38 : 0 < ((rd_L3 t135 1).length : Int)
    ·rw [if_pos c38] at H
     have c38b0 : decide (0 < ((rd_L3 t135 1).length : Int))=true:=decide_eq_true c38
     have c38b1 : decide (0 < (rd_L3 t135 1).length)=true:=decide_eq_true (by omega)
     clear c38
     by_cases c39 : ((rd_T31 (rd_L3 t135 1) 0).f0)=1
     ·rw [if_pos c39] at H
      have c39b0 : (((rd_T31 (rd_L3 t135 1) 0).f0) == 1)=true:=beq_iff_eq.mpr c39
      have c39b1 : (((rd_T31 (rd_L3 t135 1) 0).f0) != 1)=false:=bne_eq_false_iff_eq.mpr c39
      clear c39
      by_cases c40 : 2 < (t135.length : Int)
      ·rw [if_pos c40] at H
       have c40b0 : decide (2 < (t135.length : Int))=true:=decide_eq_true c40
       have c40b1 : decide (2 < t135.length)=true:=decide_eq_true (by omega)
       clear c40
       by_cases c41 : 0 < ((rd_L3 t135 2).length : Int)
       ·rw [if_pos c41] at H
        have c41b0 : decide (0 < ((rd_L3 t135 2).length : Int))=true:=decide_eq_true c41
        have c41b1 : decide (0 < (rd_L3 t135 2).length)=true:=decide_eq_true (by omega)
        clear c41
        by_cases c42 : ((rd_T31 (rd_L3 t135 2) 0).f0)=2
        ·rw [if_pos c42] at H
         have c42b0 : (((rd_T31 (rd_L3 t135 2) 0).f0) == 2)=true:=beq_iff_eq.mpr c42
         have c42b1 : (((rd_T31 (rd_L3 t135 2) 0).f0) != 2)=false:=bne_eq_false_iff_eq.mpr c42
         clear c42
         by_cases c43 : 4 < (t135.length : Int)
         ·rw [if_pos c43] at H
          have c43b0 : decide (4 < (t135.length : Int))=true:=decide_eq_true c43
          have c43b1 : decide (4 < t135.length)=true:=decide_eq_true (by omega)
          clear c43
          by_cases c44 : 0 < ((rd_L3 t135 4).length : Int)
          ·rw [if_pos c44] at H
           have c44b0 : decide (0 < ((rd_L3 t135 4).length : Int))=true:=decide_eq_true c44
           have c44b1 : decide (0 < (rd_L3 t135 4).length)=true:=decide_eq_true (by omega)
           clear c44
           have H':=Aside0.mk H
           clear H
           obtain ⟨Ao45,co45,eo45⟩:=Kd.N_slice HO137.out
           subst eo45
           have p138 : 0≤(1 : Int):=(by omega)
           have q138 : 1 < (t135.length : Int):=of_decide_eq_true (by first|(with_reducible assumption)|assumption)
           obtain ⟨ad138,A138_0,c138_0,e138,hx138_0,hl138_0,hi138_0⟩:=at_L3 (Kd.N_reads' HO137.out).2.2 1 p138 q138
           cases e138
           obtain ⟨ce138,hce138,hMe138,hcc138⟩:=Kd.N_get HO137.out [] 1 p138 (by first|exact q138|exact of_decide_eq_true (by first|(with_reducible assumption)|assumption)|(have e_:=(Kd.N_reads' HO137.out).1;omega))
           obtain ⟨ua138_0,uc138_0,rfl,ul138_0,ge138_0⟩:=Kd.FK_slice_open hMe138
           have hv138_0:=hcc138 0 _ rfl
           rw [Nat.add_zero,show ((Kd.slice 31 k31)).sz=1 from rfl,Nat.mul_one] at hv138_0
           replace hv138_0:=Option.some.inj (hv138_0.symm.trans hx138_0)
           injection hv138_0 with hva_ hvn_ hvc_
           rw [hva_] at ge138_0
           rw [hvc_] at ul138_0
           have HL138_0:=Aside0.mk (show Kd.V k31 31 _ w.heap.size _ _ (rd_L3 t135 1) from Kd.V_mk ul138_0 ge138_0)
           clear hva_ hvn_ hvc_ ge138_0 ul138_0
           clear hcc138 hce138
           (try simp only [show (1 : Int).toNat=1 from rfl,Nat.reduceMul,Nat.reduceEqDiff,Go.Addr.add,↓reduceIte] at hx138_0)
           have qi138 : (1 < t135.length)=True:=eq_true (by omega)
           (try rw [show ((1 : Int)).toNat=1 from rfl] at hx138_0)
           have HR138_0:=Aside0.mk hi138_0
           have HC138_0:=Aside0.mk hl138_0
           clear hi138_0 hl138_0
           replace p138:=eq_true p138
           replace q138:=eq_true q138
           have p139 : 0≤(0 : Int):=(by omega)
           have q139 : 0 < ((rd_L3 t135 1).length : Int):=of_decide_eq_true (by first|(with_reducible assumption)|assumption)
           obtain ⟨ad139,e139,hx139_0,hx139_1⟩:=at_T31 (by repeat (first|(with_reducible exact HR138_0.out)|(with_reducible refine Kd.C_alloc ?_ _)|(with_reducible refine Kd.C_drewN ?_ _)|(with_reducible refine Kd.C_drew ?_)|exact HR138_0.out)) 0 p139 q139
           cases e139
           have qi139 : (0 < (rd_L3 t135 1).length)=True:=eq_true (by omega)
           (try rw [show ((0 : Int)).toNat=0 from rfl] at hx139_0)
           (try rw [show 0 * 2=0 from rfl] at hx139_0)
           (try rw [Addr.add_zero'] at hx139_0)
           (try rw [show ((0 : Int)).toNat=0 from rfl] at hx139_1)
           (try rw [show 0 * 2=0 from rfl] at hx139_1)
           (try rw [Addr.add_zero'] at hx139_1)
           replace p139:=eq_true p139
           replace q139:=eq_true q139
           have p140 : 0≤(2 : Int):=(by omega)
           have q140 : 2 < (t135.length : Int):=of_decide_eq_true (by first|(with_reducible assumption)|assumption)
           obtain ⟨ad140,A140_0,c140_0,e140,hx140_0,hl140_0,hi140_0⟩:=at_L3 (Kd.N_reads' HO137.out).2.2 2 p140 q140
           obtain rfl : ad138=ad140:=(by injection e140)
           obtain ⟨ce140,hce140,hMe140,hcc140⟩:=Kd.N_get HO137.out [] 2 p140 (by first|exact q140|exact of_decide_eq_true (by first|(with_reducible assumption)|assumption)|(have e_:=(Kd.N_reads' HO137.out).1;omega))
           obtain ⟨ua140_0,uc140_0,rfl,ul140_0,ge140_0⟩:=Kd.FK_slice_open hMe140
           have hv140_0:=hcc140 0 _ rfl
           rw [Nat.add_zero,show ((Kd.slice 31 k31)).sz=1 from rfl,Nat.mul_one] at hv140_0
           replace hv140_0:=Option.some.inj (hv140_0.symm.trans hx140_0)
           injection hv140_0 with hva_ hvn_ hvc_
           rw [hva_] at ge140_0
           rw [hvc_] at ul140_0
           have HL140_0:=Aside0.mk (show Kd.V k31 31 _ w.heap.size _ _ (rd_L3 t135 2) from Kd.V_mk ul140_0 ge140_0)
           clear hva_ hvn_ hvc_ ge140_0 ul140_0
           clear hcc140 hce140
           (try simp only [show (2 : Int).toNat=2 from rfl,Nat.reduceMul,Nat.reduceEqDiff,Go.Addr.add,↓reduceIte] at hx140_0)
           have qi140 : (2 < t135.length)=True:=eq_true (by omega)
           (try rw [show ((2 : Int)).toNat=2 from rfl] at hx140_0)
           have HR140_0:=Aside0.mk hi140_0
           have HC140_0:=Aside0.mk hl140_0
           clear hi140_0 hl140_0
           replace p140:=eq_true p140
           replace q140:=eq_true q140
           have p141 : 0≤(0 : Int):=(by omega)
           have q141 : 0 < ((rd_L3 t135 2).length : Int):=of_decide_eq_true (by first|(with_reducible assumption)|assumption)
           obtain ⟨ad141,e141,hx141_0,hx141_1⟩:=at_T31 (by repeat (first|(with_reducible exact HR140_0.out)|(with_reducible refine Kd.C_alloc ?_ _)|(with_reducible refine Kd.C_drewN ?_ _)|(with_reducible refine Kd.C_drew ?_)|exact HR140_0.out)) 0 p141 q141
           cases e141
           have qi141 : (0 < (rd_L3 t135 2).length)=True:=eq_true (by omega)
           (try rw [show ((0 : Int)).toNat=0 from rfl] at hx141_0)
           (try rw [show 0 * 2=0 from rfl] at hx141_0)
           (try rw [Addr.add_zero'] at hx141_0)
           (try rw [show ((0 : Int)).toNat=0 from rfl] at hx141_1)
           (try rw [show 0 * 2=0 from rfl] at hx141_1)
           (try rw [Addr.add_zero'] at hx141_1)
           replace p141:=eq_true p141
           replace q141:=eq_true q141
           have p142 : 0≤(4 : Int):=(by omega)
           have q142 : 4 < (t135.length : Int):=of_decide_eq_true (by first|(with_reducible assumption)|assumption)
           obtain ⟨ad142,A142_0,c142_0,e142,hx142_0,hl142_0,hi142_0⟩:=at_L3 (Kd.N_reads' HO137.out).2.2 4 p142 q142
           obtain rfl : ad138=ad142:=(by injection e142)
           obtain ⟨ce142,hce142,hMe142,hcc142⟩:=Kd.N_get HO137.out [] 4 p142 (by first|exact q142|exact of_decide_eq_true (by first|(with_reducible assumption)|assumption)|(have e_:=(Kd.N_reads' HO137.out).1;omega))
           obtain ⟨ua142_0,uc142_0,rfl,ul142_0,ge142_0⟩:=Kd.FK_slice_open hMe142
           have hv142_0:=hcc142 0 _ rfl
           rw [Nat.add_zero,show ((Kd.slice 31 k31)).sz=1 from rfl,Nat.mul_one] at hv142_0
           replace hv142_0:=Option.some.inj (hv142_0.symm.trans hx142_0)
           injection hv142_0 with hva_ hvn_ hvc_
           rw [hva_] at ge142_0
           rw [hvc_] at ul142_0
           have HL142_0:=Aside0.mk (show Kd.V k31 31 _ w.heap.size _ _ (rd_L3 t135 4) from Kd.V_mk ul142_0 ge142_0)
           clear hva_ hvn_ hvc_ ge142_0 ul142_0
           clear hcc142 hce142
           (try simp only [show (4 : Int).toNat=4 from rfl,Nat.reduceMul,Nat.reduceEqDiff,Go.Addr.add,↓reduceIte] at hx142_0)
           have qi142 : (4 < t135.length)=True:=eq_true (by omega)
           (try rw [show ((4 : Int)).toNat=4 from rfl] at hx142_0)
           have HR142_0:=Aside0.mk hi142_0
           have HC142_0:=Aside0.mk hl142_0
           clear hi142_0 hl142_0
           replace p142:=eq_true p142
           replace q142:=eq_true q142
           have p143 : 0≤(0 : Int):=(by omega)
           have q143 : 0 < ((rd_L3 t135 4).length : Int):=of_decide_eq_true (by first|(with_reducible assumption)|assumption)
           obtain ⟨ad143,e143,hx143_0,hx143_1⟩:=at_T31 (by repeat (first|(with_reducible exact HR142_0.out)|(with_reducible refine Kd.C_alloc ?_ _)|(with_reducible refine Kd.C_drewN ?_ _)|(with_reducible refine Kd.C_drew ?_)|exact HR142_0.out)) 0 p143 q143
           cases e143
           have qi143 : (0 < (rd_L3 t135 4).length)=True:=eq_true (by omega)
           (try rw [show ((0 : Int)).toNat=0 from rfl] at hx143_0)
           (try rw [show 0 * 2=0 from rfl] at hx143_0)
           (try rw [Addr.add_zero'] at hx143_0)
           (try rw [show ((0 : Int)).toNat=0 from rfl] at hx143_1)
           (try rw [show 0 * 2=0 from rfl] at hx143_1)
           (try rw [Addr.add_zero'] at hx143_1)
           replace p143:=eq_true p143
           replace q143:=eq_true q143
           go_wp2
           go_meet
           case rel=>exact ⟨_,((((rd_T31 (rd_L3 t135 4) 0).f0) == 4)),(by first|rfl|(simp;done)|(simp [*];done)),(by first|exact H'|(subst_vars;exact H')),⟨by first|omega|exact Nat.le_refl _⟩,⟨by (with_reducible repeat (first|apply Kd.R_alloc|apply Kd.R_drewN|apply Kd.R_drew));exact HO106.out⟩,⟨by (with_reducible repeat (first|refine blk_drewN ?_ _|refine blk_drew ?_|refine blk_alloc ?_ _));exact BK107.out⟩,⟨by repeat (first|(with_reducible first|exact HB.out|apply below_alloc|apply pw_below_drewN|apply below_drew1|refine below_set ?_ GE107.out)|exact HB.out)⟩⟩
          ·rw [if_neg c44] at H
           exact absurd H (by simp)
         ·rw [if_neg c43] at H
          exact absurd H (by simp)
        ·rw [if_neg c42] at H
         have c42b0 : (((rd_T31 (rd_L3 t135 2) 0).f0) == 2)=false:=beq_eq_false_iff_ne.mpr c42
         have c42b1 : (((rd_T31 (rd_L3 t135 2) 0).f0) != 2)=true:=bne_iff_ne.mpr c42
         have H':=Aside0.mk H
         clear H
         obtain ⟨Ao46,co46,eo46⟩:=Kd.N_slice HO137.out
         subst eo46
         have p138 : 0≤(1 : Int):=(by omega)
         have q138 : 1 < (t135.length : Int):=of_decide_eq_true (by first|(with_reducible assumption)|assumption)
         obtain ⟨ad138,A138_0,c138_0,e138,hx138_0,hl138_0,hi138_0⟩:=at_L3 (Kd.N_reads' HO137.out).2.2 1 p138 q138
         cases e138
         obtain ⟨ce138,hce138,hMe138,hcc138⟩:=Kd.N_get HO137.out [] 1 p138 (by first|exact q138|exact of_decide_eq_true (by first|(with_reducible assumption)|assumption)|(have e_:=(Kd.N_reads' HO137.out).1;omega))
         obtain ⟨ua138_0,uc138_0,rfl,ul138_0,ge138_0⟩:=Kd.FK_slice_open hMe138
         have hv138_0:=hcc138 0 _ rfl
         rw [Nat.add_zero,show ((Kd.slice 31 k31)).sz=1 from rfl,Nat.mul_one] at hv138_0
         replace hv138_0:=Option.some.inj (hv138_0.symm.trans hx138_0)
         injection hv138_0 with hva_ hvn_ hvc_
         rw [hva_] at ge138_0
         rw [hvc_] at ul138_0
         have HL138_0:=Aside0.mk (show Kd.V k31 31 _ w.heap.size _ _ (rd_L3 t135 1) from Kd.V_mk ul138_0 ge138_0)
         clear hva_ hvn_ hvc_ ge138_0 ul138_0
         clear hcc138 hce138
         (try simp only [show (1 : Int).toNat=1 from rfl,Nat.reduceMul,Nat.reduceEqDiff,Go.Addr.add,↓reduceIte] at hx138_0)
         have qi138 : (1 < t135.length)=True:=eq_true (by omega)
         (try rw [show ((1 : Int)).toNat=1 from rfl] at hx138_0)
         have HR138_0:=Aside0.mk hi138_0
         have HC138_0:=Aside0.mk hl138_0
         clear hi138_0 hl138_0
         replace p138:=eq_true p138
         replace q138:=eq_true q138
         have p139 : 0≤(0 : Int):=(by omega)
         have q139 : 0 < ((rd_L3 t135 1).length : Int):=of_decide_eq_true (by first|(with_reducible assumption)|assumption)
         obtain ⟨ad139,e139,hx139_0,hx139_1⟩:=at_T31 (by repeat (first|(with_reducible exact HR138_0.out)|(with_reducible refine Kd.C_alloc ?_ _)|(with_reducible refine Kd.C_drewN ?_ _)|(with_reducible refine Kd.C_drew ?_)|exact HR138_0.out)) 0 p139 q139
         cases e139
         have qi139 : (0 < (rd_L3 t135 1).length)=True:=eq_true (by omega)
         (try rw [show ((0 : Int)).toNat=0 from rfl] at hx139_0)
         (try rw [show 0 * 2=0 from rfl] at hx139_0)
         (try rw [Addr.add_zero'] at hx139_0)
         (try rw [show ((0 : Int)).toNat=0 from rfl] at hx139_1)
         (try rw [show 0 * 2=0 from rfl] at hx139_1)
         (try rw [Addr.add_zero'] at hx139_1)
         replace p139:=eq_true p139
         replace q139:=eq_true q139
         have p140 : 0≤(2 : Int):=(by omega)
         have q140 : 2 < (t135.length : Int):=of_decide_eq_true (by first|(with_reducible assumption)|assumption)
         obtain ⟨ad140,A140_0,c140_0,e140,hx140_0,hl140_0,hi140_0⟩:=at_L3 (Kd.N_reads' HO137.out).2.2 2 p140 q140
         obtain rfl : ad138=ad140:=(by injection e140)
         obtain ⟨ce140,hce140,hMe140,hcc140⟩:=Kd.N_get HO137.out [] 2 p140 (by first|exact q140|exact of_decide_eq_true (by first|(with_reducible assumption)|assumption)|(have e_:=(Kd.N_reads' HO137.out).1;omega))
         obtain ⟨ua140_0,uc140_0,rfl,ul140_0,ge140_0⟩:=Kd.FK_slice_open hMe140
         have hv140_0:=hcc140 0 _ rfl
         rw [Nat.add_zero,show ((Kd.slice 31 k31)).sz=1 from rfl,Nat.mul_one] at hv140_0
         replace hv140_0:=Option.some.inj (hv140_0.symm.trans hx140_0)
         injection hv140_0 with hva_ hvn_ hvc_
         rw [hva_] at ge140_0
         rw [hvc_] at ul140_0
         have HL140_0:=Aside0.mk (show Kd.V k31 31 _ w.heap.size _ _ (rd_L3 t135 2) from Kd.V_mk ul140_0 ge140_0)
         clear hva_ hvn_ hvc_ ge140_0 ul140_0
         clear hcc140 hce140
         (try simp only [show (2 : Int).toNat=2 from rfl,Nat.reduceMul,Nat.reduceEqDiff,Go.Addr.add,↓reduceIte] at hx140_0)
         have qi140 : (2 < t135.length)=True:=eq_true (by omega)
         (try rw [show ((2 : Int)).toNat=2 from rfl] at hx140_0)
         have HR140_0:=Aside0.mk hi140_0
         have HC140_0:=Aside0.mk hl140_0
         clear hi140_0 hl140_0
         replace p140:=eq_true p140
         replace q140:=eq_true q140
         have p141 : 0≤(0 : Int):=(by omega)
         have q141 : 0 < ((rd_L3 t135 2).length : Int):=of_decide_eq_true (by first|(with_reducible assumption)|assumption)
         obtain ⟨ad141,e141,hx141_0,hx141_1⟩:=at_T31 (by repeat (first|(with_reducible exact HR140_0.out)|(with_reducible refine Kd.C_alloc ?_ _)|(with_reducible refine Kd.C_drewN ?_ _)|(with_reducible refine Kd.C_drew ?_)|exact HR140_0.out)) 0 p141 q141
         cases e141
         have qi141 : (0 < (rd_L3 t135 2).length)=True:=eq_true (by omega)
         (try rw [show ((0 : Int)).toNat=0 from rfl] at hx141_0)
         (try rw [show 0 * 2=0 from rfl] at hx141_0)
         (try rw [Addr.add_zero'] at hx141_0)
         (try rw [show ((0 : Int)).toNat=0 from rfl] at hx141_1)
         (try rw [show 0 * 2=0 from rfl] at hx141_1)
         (try rw [Addr.add_zero'] at hx141_1)
         replace p141:=eq_true p141
         replace q141:=eq_true q141
         go_wp2
         go_meet
         case rel=>exact ⟨_,(false),(by first|rfl|(simp;done)|(simp [*];done)),(by first|exact H'|(subst_vars;exact H')),⟨by first|omega|exact Nat.le_refl _⟩,⟨by (with_reducible repeat (first|apply Kd.R_alloc|apply Kd.R_drewN|apply Kd.R_drew));exact HO106.out⟩,⟨by (with_reducible repeat (first|refine blk_drewN ?_ _|refine blk_drew ?_|refine blk_alloc ?_ _));exact BK107.out⟩,⟨by repeat (first|(with_reducible first|exact HB.out|apply below_alloc|apply pw_below_drewN|apply below_drew1|refine below_set ?_ GE107.out)|exact HB.out)⟩⟩
       ·rw [if_neg c41] at H
        exact absurd H (by simp)
      ·rw [if_neg c40] at H
       exact absurd H (by simp)
     ·rw [if_neg c39] at H
      have c39b0 : (((rd_T31 (rd_L3 t135 1) 0).f0) == 1)=false:=beq_eq_false_iff_ne.mpr c39
      have c39b1 : (((rd_T31 (rd_L3 t135 1) 0).f0) != 1)=true:=bne_iff_ne.mpr c39
      have H':=Aside0.mk H
      clear H
      obtain ⟨Ao47,co47,eo47⟩:=Kd.N_slice HO137.out
      subst eo47
      have p138 : 0≤(1 : Int):=(by omega)
      have q138 : 1 < (t135.length : Int):=of_decide_eq_true (by first|(with_reducible assumption)|assumption)
      obtain ⟨ad138,A138_0,c138_0,e138,hx138_0,hl138_0,hi138_0⟩:=at_L3 (Kd.N_reads' HO137.out).2.2 1 p138 q138
      cases e138
      obtain ⟨ce138,hce138,hMe138,hcc138⟩:=Kd.N_get HO137.out [] 1 p138 (by first|exact q138|exact of_decide_eq_true (by first|(with_reducible assumption)|assumption)|(have e_:=(Kd.N_reads' HO137.out).1;omega))
      obtain ⟨ua138_0,uc138_0,rfl,ul138_0,ge138_0⟩:=Kd.FK_slice_open hMe138
      have hv138_0:=hcc138 0 _ rfl
      rw [Nat.add_zero,show ((Kd.slice 31 k31)).sz=1 from rfl,Nat.mul_one] at hv138_0
      replace hv138_0:=Option.some.inj (hv138_0.symm.trans hx138_0)
      injection hv138_0 with hva_ hvn_ hvc_
      rw [hva_] at ge138_0
      rw [hvc_] at ul138_0
      have HL138_0:=Aside0.mk (show Kd.V k31 31 _ w.heap.size _ _ (rd_L3 t135 1) from Kd.V_mk ul138_0 ge138_0)
      clear hva_ hvn_ hvc_ ge138_0 ul138_0
      clear hcc138 hce138
      (try simp only [show (1 : Int).toNat=1 from rfl,Nat.reduceMul,Nat.reduceEqDiff,Go.Addr.add,↓reduceIte] at hx138_0)
      have qi138 : (1 < t135.length)=True:=eq_true (by omega)
      (try rw [show ((1 : Int)).toNat=1 from rfl] at hx138_0)
      have HR138_0:=Aside0.mk hi138_0
      have HC138_0:=Aside0.mk hl138_0
      clear hi138_0 hl138_0
      replace p138:=eq_true p138
      replace q138:=eq_true q138
      have p139 : 0≤(0 : Int):=(by omega)
      have q139 : 0 < ((rd_L3 t135 1).length : Int):=of_decide_eq_true (by first|(with_reducible assumption)|assumption)
      obtain ⟨ad139,e139,hx139_0,hx139_1⟩:=at_T31 (by repeat (first|(with_reducible exact HR138_0.out)|(with_reducible refine Kd.C_alloc ?_ _)|(with_reducible refine Kd.C_drewN ?_ _)|(with_reducible refine Kd.C_drew ?_)|exact HR138_0.out)) 0 p139 q139
      cases e139
      have qi139 : (0 < (rd_L3 t135 1).length)=True:=eq_true (by omega)
      (try rw [show ((0 : Int)).toNat=0 from rfl] at hx139_0)
      (try rw [show 0 * 2=0 from rfl] at hx139_0)
      (try rw [Addr.add_zero'] at hx139_0)
      (try rw [show ((0 : Int)).toNat=0 from rfl] at hx139_1)
      (try rw [show 0 * 2=0 from rfl] at hx139_1)
      (try rw [Addr.add_zero'] at hx139_1)
      replace p139:=eq_true p139
      replace q139:=eq_true q139
      go_wp2
      go_meet
      case rel=>exact ⟨_,(false),(by first|rfl|(simp;done)|(simp [*];done)),(by first|exact H'|(subst_vars;exact H')),⟨by first|omega|exact Nat.le_refl _⟩,⟨by (with_reducible repeat (first|apply Kd.R_alloc|apply Kd.R_drewN|apply Kd.R_drew));exact HO106.out⟩,⟨by (with_reducible repeat (first|refine blk_drewN ?_ _|refine blk_drew ?_|refine blk_alloc ?_ _));exact BK107.out⟩,⟨by repeat (first|(with_reducible first|exact HB.out|apply below_alloc|apply pw_below_drewN|apply below_drew1|refine below_set ?_ GE107.out)|exact HB.out)⟩⟩
    ·rw [if_neg c38] at H
     exact absurd H (by simp)
   ·rw [if_neg c37] at H
    exact absurd H (by simp)
  ·rw [if_neg c36] at H
   have c36b0 : ((t135.length : Int) == 5)=false:=beq_eq_false_iff_ne.mpr c36
   have c36b1 : ((t135.length : Int) != 5)=true:=bne_iff_ne.mpr c36
   (first|rw [c36b0]|(simp only [i64_w,i32_w];rw [c36b0])|skip)
   have H':=Aside0.mk H
   clear H
   obtain ⟨Ao48,co48,eo48⟩:=Kd.N_slice HO137.out
   subst eo48
   go_wp2
   go_meet
   case rel=>exact ⟨_,(false),(by first|rfl|(simp;done)|(simp [*];done)),(by first|exact H'|(subst_vars;exact H')),⟨by first|omega|exact Nat.le_refl _⟩,⟨by (with_reducible repeat (first|apply Kd.R_alloc|apply Kd.R_drewN|apply Kd.R_drew));exact HO106.out⟩,⟨by (with_reducible repeat (first|refine blk_drewN ?_ _|refine blk_drew ?_|refine blk_alloc ?_ _));exact BK107.out⟩,⟨by repeat (first|(with_reducible first|exact HB.out|apply below_alloc|apply pw_below_drewN|apply below_drew1|refine below_set ?_ GE107.out)|exact HB.out)⟩⟩
 case rest =>
  clear HC2
  try clear c1
  try clear p1
  try clear q1
  try clear hx1
  try clear qi1
  try clear c2
  try clear p2
  try clear c3
  try clear c4
  try clear c8
  try clear c9
  try clear c13
  try clear p13
  try clear q13
  try clear hx13
  try clear qi13
  try clear c14
  try clear p14
  try clear q14
  try clear hx14
  try clear qi14
  try clear c36
  try clear c36b0
  try clear c36b1
  try clear c37
  try clear c37b0
  try clear c37b1
  try clear c38
  try clear c38b0
  try clear c38b1
  try clear c39
  try clear c39b0
  try clear c39b1
  try clear c40
  try clear c40b0
  try clear c40b1
  try clear c41
  try clear c41b0
  try clear c41b1
  try clear c42
  try clear c42b0
  try clear c42b1
  try clear c43
  try clear c43b0
  try clear c43b1
  try clear c44
  try clear c44b0
  try clear c44b1
  try clear hcz7_0
  try clear hcz7_1
  try clear hcz7_2
  try clear hcz7_3
  try clear hfz7_0
  try clear hfz7_1
  try clear hfz7_2
  try clear hfz7_3
  try clear hx138_0
  try clear hx139_0
  try clear hx139_1
  try clear hx140_0
  try clear hx141_0
  try clear hx141_1
  try clear hx142_0
  try clear hx143_0
  try clear hx143_1
  try clear p138
  try clear p139
  try clear p140
  try clear p141
  try clear p142
  try clear p143
  try clear q138
  try clear q139
  try clear q140
  try clear q141
  try clear q142
  try clear q143
  obtain ⟨kq,x0_1,rfl,HA,HJ1,HO_108000,BK107,HB⟩:=hcut
  cases kq with
  | zero=>exact absurd HA.out (by simp [thresherlaw14_shown.j0])
  | succ kj1 =>
   have H:=HA.out
   clear HA
   simp only [thresherlaw14_shown.j0] at H
   obtain rfl:=Option.some.inj H
   go_wp2
   go_ret
   exact ⟨by first|rfl|(simp [errW_none,errW_some] <;> rfl)|(simp [*,errW_none,errW_some] <;> rfl),by repeat (first|(with_reducible first|exact HB.out|apply below_alloc|apply pw_below_drewN|apply below_drew1|refine below_set ?_ GE107.out)|exact HB.out)⟩
end Go.Proofs.Ytfiandejapgkoaa.P

