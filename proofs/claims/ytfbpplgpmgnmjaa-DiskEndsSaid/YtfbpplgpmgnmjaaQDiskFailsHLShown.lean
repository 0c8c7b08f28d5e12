/- Texts of DiskFails. Merged: HLShown. -/
import Derived.Test.YtfbpplgpmgnmjaaQDiskFailsHDskY
import Derived.Test.YtfbpplgpmgnmjaaQDiskFailsHDskO
/- shown: the document's examples. -/
namespace Go.Proofs.Ytfbpplgpmgnmjaa.P
open Go.RowKit Go.Proofs.YtfbpplgpmgnmjaaW.PrintWords Go.Proofs.YtfbpplgpmgnmjaaW.PrintLast Go.Proofs.YtfbpplgpmgnmjaaW.PrintMore
set_option linter.unusedVariables false
set_option linter.unusedSimpArgs false
def na : ByteArray := ⟨#[97]⟩
def sh1 : DS := ⟨9, 1, [([], 0)], [(na, 0)], [], [(noName, na, 0)], [], -1, false⟩
def sh2 : DS := ⟨9, 2, [([120, 121], 0)], [(na, 0)], [], [(noName, na, 0)], [], -1, false⟩
def sh3 : DS := ⟨9, 3, [([120, 121], 2)], [(na, 0)], [], [(noName, na, 0)], [], -1, false⟩
def sh4 : DS := ⟨9, 4, [([120, 121], 2)], [(na, 0)], [(na, 0)], [], [], -1, false⟩
def sh5 : DS := ⟨9, 5, [([120, 121, 122], 2)], [(na, 0)], [(na, 0)], [], [], -1, false⟩
def shC : DS := ⟨9, 0, [], [], [], [], [], -1, false⟩
def shE : DS := ⟨9, 0, [([120, 121], 2)], [(na, 0)], [(na, 0)], [], [], -1, false⟩
theorem sh1_eq : stepF (DS.new 9) (create1 · na) = (sh1, 0) := by kernel_rfl
theorem sh2_eq : append1 sh1 na [120, 121] = (sh2, 0) := by kernel_rfl
theorem sh3_eq : stepF sh2 (sync1 · na) = (sh3, 0) := by kernel_rfl
theorem sh4_eq : stepF sh3 syncdir1 = (sh4, 0) := by kernel_rfl
theorem sh5_eq : append1 sh4 na [122] = (sh5, 0) := by kernel_rfl
theorem namesOf_nil : namesOf [] = [] := by simp [namesOf, sortN]
theorem namesOf_one (e : NE) : namesOf [e] = [e.1] := by simp [namesOf, sortN]
theorem crashNames_nil : crashNames [] = [] := by unfold crashNames; rw [namesOf_nil]; rfl
theorem crashNames_one (e : NE) : crashNames [e] = [(e.1, 0)] := by unfold crashNames; rw [namesOf_one]; rfl
theorem crashFiles_nil (fs : List DF) (t : List Int) : crashFiles fs [] t = [] := by unfold crashFiles; rw [namesOf_nil]; rfl
theorem crashFiles_one (fs : List DF) (e : NE) (t : List Int) : crashFiles fs [e] t = [crashFile (fs.getD e.2.toNat zF) t 0] := by
  unfold crashFiles
  rw [namesOf_one]
  simp [tget]
theorem crash_of {d : DS} {n : Int} {t : List Int} {es : List NE} (h : leftNames d (leftN d n) = es) : crash d n t = { DS.new d.quota with files := crashFiles d.files es t, names := crashNames es, kept := crashNames es } := by unfold crash; rw [h]
theorem shC_eq : crash sh3 0 [] = shC := by
  have h : leftNames sh3 (leftN sh3 0) = [] := by kernel_rfl
  rw [crash_of h, crashFiles_nil, crashNames_nil]
  rfl
theorem shE_eq : crash sh5 0 [] = shE := by
  have h : leftNames sh5 (leftN sh5 0) = [(na, 0)] := by kernel_rfl
  rw [crash_of h, crashFiles_one, crashNames_one]
  rfl
theorem shE_read : read1 shE na = ([120, 121], 0) := by kernel_rfl
end Go.Proofs.Ytfbpplgpmgnmjaa.P

