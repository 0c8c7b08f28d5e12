/- Texts of ValueAll. Merged: HLaidE. -/
import Derived.Test.YtifpjhghbafcjaaDoorQValueAllHLaid
import Derived.Test.YtifpjhghbafcjaaDoorQValueAllHTabs
/- What the five listed variables of a row give the walks of Read. -/
namespace Go.Proofs.YtifpjhghbafcjaaDoor.P
open Go.RowKit Go.ChangeShapes Go.WideShapes Go.ChangeAt
def laid5 : List (String × DataW Unit):=[("math/bits.deBruijn32tab",Rows.laid_math_bits_deBruijn32tab),("math/bits.deBruijn64tab",Rows.laid_math_bits_deBruijn64tab),("internal/strconv.uint64pow10",Rows.laid_internal_strconv_uint64pow10),("strconv.ErrRange",Rows.laid_strconv_ErrRange),("strconv.ErrSyntax",Rows.laid_strconv_ErrSyntax)]
theorem gRng : Tryd.prog.globalNamed "strconv.ErrRange"=some 3:=by kernel_rfl
theorem gSyn : Tryd.prog.globalNamed "strconv.ErrSyntax"=some 2:=by kernel_rfl
theorem tRng : (Tryd.prog.globals[3]?).map (·.type)=some 50:=by kernel_rfl
theorem tSyn : (Tryd.prog.globals[2]?).map (·.type)=some 50:=by kernel_rfl
theorem err_of {w : World} {n : String} {g : Nat} (hg : Tryd.prog.globalNamed n=some g) {tp : TypeId} {v : Value} (h : w.var? Tryd.prog n=some #[.iface tp v]) : HasErr w g:=by
 have h2 : w.cell? ⟨g,0,none⟩=some (.iface tp v):=by rw [World.var?_cell hg h 0];rfl
 exact ⟨World.block_lt_of_cell? w ⟨g,0,none⟩ h2,_,h2,.inr ⟨_,_,rfl⟩⟩
theorem star_err : "*" ++ "errors.errorString"="*errors.errorString":=by decide
theorem row_err (u : TypeId) (h : Tryd.prog.typeName? 3 u=some "*errors.errorString") : u=100 :=
 typeName_ptr_named (nm:="errors.errorString") (by rw [star_err];kernel_rfl) (by kernel_rfl) (by decide) u (by rw [star_err];exact h)
theorem tabsE_of_laid {W : World} (h : laidMetH Tryd.prog laid5 W) : TabsE W:=by
 rw [MakeChecks.laidMetH_plain _ _ _ (by kernel_rfl)] at h
 have h2 : laidMet Tryd.prog (("internal/strconv.uint64pow10",Rows.laid_internal_strconv_uint64pow10) :: [("strconv.ErrRange",Rows.laid_strconv_ErrRange),("strconv.ErrSyntax",Rows.laid_strconv_ErrSyntax)]) W:=h.tail.tail
 have h3:=h2.tail
 rw [powTab] at h2
 refine ⟨Lib.tabIs_of_head gPow tPow Tryd.underlying88 Tryd.underlying45 cU64 cPow h2,?_,?_⟩
 ·obtain ⟨a,s,hv,_,_,_⟩:=laid_sentinel h3.tail gSyn tSyn Tryd.underlying50 row_err Tryd.underlying100 Tryd.underlying102 rfl rfl Tryd.underlying9 (by kernel_rfl) (by kernel_rfl)
  exact err_of gSyn hv
 ·obtain ⟨a,s,hv,_,_,_⟩:=laid_sentinel h3 gRng tRng Tryd.underlying50 row_err Tryd.underlying100 Tryd.underlying102 rfl rfl Tryd.underlying9 (by kernel_rfl) (by kernel_rfl)
  exact err_of gRng hv
theorem door5_met (os : Os) (args : Array Value) : laidMetH Tryd.prog laid5 ((World.doorLaid Tryd.prog 62 os).forCall (fun _ _=>0) ⟨#[],args,[]⟩).memory :=
 laidMetH_of_parts3 (fuel:=8) (laidMet_of_run' 8 (by kernel_rfl) (by kernel_rfl)) (by kernel_rfl) (by kernel_rfl)
end Go.Proofs.YtifpjhghbafcjaaDoor.P

