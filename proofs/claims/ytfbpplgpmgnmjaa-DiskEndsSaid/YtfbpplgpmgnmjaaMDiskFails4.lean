/- Texts of DiskFails. Merged: HDskR, HDskS, HDskT. -/
import Derived.Test.YtfbpplgpmgnmjaaQDiskFailsHDskQ
import Derived.Test.YtfbpplgpmgnmjaaHCmp
import Derived.Test.YtfbpplgpmgnmjaaShelfS
import Derived.Sort.OwnSorted
import Derived.Sort.LotA
import Derived.Shelf.SlSortCmp.NoneTotal
/- sorted: the names in order. -/
namespace Go.Proofs.Ytfbpplgpmgnmjaa.P
open Go.RowKit Go.Proofs.YtfbpplgpmgnmjaaW.PrintWords Go.Proofs.YtfbpplgpmgnmjaaW.PrintLast Go.Proofs.YtfbpplgpmgnmjaaW.PrintMore
open Go.Sort
set_option linter.unusedVariables false
set_option linter.unusedSimpArgs false
def nmLt (x y : ByteArray) : Bool := decide (x.data.toList < y.data.toList)
def sortN (l : List ByteArray) : List ByteArray := l.mergeSort (fun x y => !nmLt y x)
def cfN (x y : ByteArray) : Int := Lib.compareBytes x.data.toList y.data.toList
def encB (x : ByteArray) : List Value := [.string x]
theorem cb_lt : ∀ a b : List UInt8, decide (Lib.compareBytes a b < 0) = decide (a < b)
  | [], [] => by simp [Lib.compareBytes]
  | [], _ :: _ => by simp [Lib.compareBytes]
  | _ :: _, [] => by simp [Lib.compareBytes]
  | a :: l, b :: m => by
    have ih := cb_lt l m
    unfold Lib.compareBytes
    rw [Bool.eq_iff_iff, decide_eq_true_iff, decide_eq_true_iff] at ih ⊢
    rw [List.cons_lt_cons_iff]
    by_cases h1 : a < b
    · simp [h1]
    · by_cases h2 : b < a
      · have h3 : ¬ a = b := fun e => by subst e; exact h1 h2
        rw [if_neg h1, if_pos h2]
        simp [h1, h3]
      · have h3 : a = b := by
          have e1 : ¬ a.toNat < b.toNat := fun h => h1 (UInt8.lt_iff_toNat_lt.2 h)
          have e2 : ¬ b.toNat < a.toNat := fun h => h2 (UInt8.lt_iff_toNat_lt.2 h)
          exact UInt8.toNat_inj.1 (by omega)
        rw [if_neg h1, if_neg h2, ih]
        simp [h3, UInt8.lt_irrefl]
theorem ltOf_cfN (x y : ByteArray) : ltOf cfN x y = nmLt x y := cb_lt _ _
theorem swo_N : SWO (ltOf cfN) where
  irrefl x := by rw [ltOf_cfN]; exact swo_ltStr.irrefl _
  trans x y z h1 h2 := by rw [ltOf_cfN] at *; exact swo_ltStr.trans _ _ _ h1 h2
  ntrans x y z h1 h2 := by rw [ltOf_cfN] at *; exact swo_ltStr.ntrans _ _ _ h1 h2
theorem ba_ext {x y : ByteArray} (h : x.data.toList = y.data.toList) : x = y := by
  cases x; cases y
  exact congrArg _ (Array.toList_inj.1 h)
theorem total_N (x y : ByteArray) (h1 : ltOf cfN x y = false) (h2 : ltOf cfN y x = false) : x = y := by
  rw [ltOf_cfN] at h1 h2
  simp only [nmLt, decide_eq_false_iff_not, List.not_lt] at h1 h2
  exact ba_ext (List.le_antisymm h2 h1)
theorem flat1 (ts : List ByteArray) : flatK encB 1 ts.toArray = (ts.map Value.string).toArray := by
  apply Array.ext
  · simp
  · intro i h1 h2
    have hi : i < ts.length := by simpa using h2
    simp [flatK, encB, Nat.mod_one, hi]
theorem putRow1 (w : World) (g : Nat) (ts : List ByteArray) : putRowK encB 1 w g 0 ts.toArray = putRow encStr w g 0 (ts.map (fun x => x.data.toList)).toArray := by
  unfold putRowK putRow
  rw [flat1]
  congr 1
  funext c
  unfold putCells
  apply Array.ext
  · simp
  · intro i h1 h2
    simp only [Array.getElem_mapIdx]
    by_cases hc : i < ts.length
    · simp [hc, encStr]
    · simp [hc]
theorem drewN_grow (w : World) (n : Nat) (a b : Obj) : ((w.alloc a).alloc b).drewN n = grow (w.drewN n) #[a, b] := by
  show World.drewN _ _ = _
  unfold grow
  rfl
set_option maxHeartbeats 4000000 in
set_option maxRecDepth 100000 in
theorem cmpN_any (x y : ByteArray) (W : World) : Calls Try.prog 71 #[.agg #[.string x], .agg #[.string y]] W fun e w' => e = .returned (.int .i64 (cfN x y)) ∧ ∃ q os', w' = grow (W.drewN q) os' := by
  have hc : ∀ W, Calls Try.prog 72 #[.string x, .string y] W fun e w' => e = .returned (.int .i64 (cfN x y)) ∧ Drawn0 W w' := fun W => strings_Compare.calls x y (cfN x y) W rfl
  go_enter Try.func71, Try.ntmps71
  go_wp2_with (go_at_call 72; refine (hc _).mono ?_; rintro e w' ⟨rfl, ⟨nd, rfl⟩⟩)
  go_ret
  exact ⟨rfl, nd, _, drewN_grow _ _ _ _⟩
theorem holdsB {w : World} {g : Nat} {cur : Array Value} {e : TypeId} {xs : List ByteArray} (hb : w.heap[g]? = some (.cells cur e (0, 0))) (ht : cur.toList.take xs.length = xs.map Value.string) : HoldsK encB 1 w g 0 xs.toArray := by
  unfold HoldsK
  rw [flat1]
  intro j hj
  have hj' : j < xs.length := by simpa using hj
  refine ⟨?_, by simp [World.frozen?, hb]⟩
  have h1 : (cur.toList.take xs.length)[j]? = (xs.map Value.string)[j]? := by rw [ht]
  rw [List.getElem?_take_of_lt hj'] at h1
  simp only [World.cell?, hb, Nat.zero_add]
  simp only [Option.isSome_none, Bool.false_eq_true, if_false]
  rw [← Array.getElem?_toList, h1]
  simp [hj']
/-- slices.SortFunc of a row of one's own. -/
theorem sortfunc_any {W : World} {base : Nat} {v : Value} {xs : List ByteArray} (h : W.ownsRow base 73 1 v xs.length (xs.map Value.string)) (hl : xs.length ≤ 1000000) :
    Calls Try.prog 82 #[v, .func (.func 71) #[] #[]] W fun e w' => e = .returned (.tuple #[]) ∧ w'.ownsRow base 73 1 v xs.length ((sortN xs).map Value.string) ∧ (∀ B w0, B ≤ base → Below B w0 W → Below B w0 w') := by
  rcases h.2 with ⟨rfl, hz⟩ | ⟨g, cap, cur, rfl, hbase, hgb, r1, r2, r3, r4⟩
  · have hx : xs = [] := List.eq_nil_of_length_eq_zero hz
    subst hx
    refine (AnyF.slices_SortFunc_none Try.sortName none 0 (.func (.func 71) #[] #[]) W).mono ?_
    rintro e w' ⟨rfl, rfl⟩
    exact ⟨rfl, by simpa [sortN] using h, fun _ _ _ h => h⟩
  · have hH : HoldsK encB 1 W g 0 xs.toArray := holdsB hgb (by simpa using r4)
    have hT := AnyQ.slices_SortFunc_total Try.sortName 1 (fun w => Try.isAgg73 w) (fun w => Try.sizeOf73 w) encB (fun _ => rfl) (fun x v hv => by simp [encB] at hv; subst hv; rfl) cfN swo_N 71 #[] g 0 cap xs.toArray W
      (enters_of Try.func71 (by kernel_rfl) rfl) (fun m os dk _ x y => cmpN_any x y _) hH (blk_lt hgb) (by simp; omega) total_N
    have hT2 : Calls Try.prog 82 #[.slice (some ⟨g, 0, none⟩) xs.length cap, .func (.func 71) #[] #[]] W (fun e w' => e = .returned (.tuple #[]) ∧ ∃ n os, w' = sortWorldK encB 1 W g 0 n (xs.mergeSort fun x y => !(ltOf cfN) y x).toArray os) := hT
    refine hT2.mono ?_
    rintro e w' ⟨rfl, n, os, rfl⟩
    have hs : (xs.mergeSort fun x y => !(ltOf cfN) y x) = sortN xs := by unfold sortN; congr 1; funext x y; rw [ltOf_cfN]
    have hw : sortWorldK encB 1 W g 0 n (xs.mergeSort fun x y => !(ltOf cfN) y x).toArray os = grow (putRow encStr (Sort.ahead W n) g 0 ((sortN xs).map (fun x => x.data.toList)).toArray) os := by
      rw [hs]; unfold sortWorldK; rw [putRow1]
    have hm : (sortN xs).map Value.string = ((sortN xs).map (fun x => x.data.toList)).map encStr := by rw [List.map_map]; rfl
    have hlen : ((sortN xs).map (fun x => x.data.toList)).length = (xs.map (fun x => x.data.toList)).length := by simp [sortN]
    refine ⟨rfl, ?_, ?_⟩
    · rw [hw, hm]
      have := ownsRow_sorted (w := W) (n := n) (os := os) hlen hbase hgb (by simpa using r1) r2 r3
      simpa using this
    · intro B w0 hB hb
      rw [hw]
      exact hb.grown (grownBy_sorted _) (Nat.le_trans hB (Nat.le_trans hbase (Nat.le_of_lt (blk_lt hgb)))) (fun k e => by cases e; exact Nat.le_trans hB hbase)
end Go.Proofs.Ytfbpplgpmgnmjaa.P

/- slices.SortedFunc, sorted: the names in order. -/
namespace Go.Proofs.Ytfbpplgpmgnmjaa.P
open Go.RowKit Go.Proofs.YtfbpplgpmgnmjaaW.PrintWords Go.Proofs.YtfbpplgpmgnmjaaW.PrintLast Go.Proofs.YtfbpplgpmgnmjaaW.PrintMore
set_option linter.unusedVariables false
set_option linter.unusedSimpArgs false
def namesOf (es : List NE) : List ByteArray := sortN (es.map Prod.fst)
theorem perm_uniq {r : ByteArray → ByteArray → Prop} (anti : ∀ a b, r a b → r b a → a = b) : ∀ l m : List ByteArray, l.Perm m → l.Pairwise r → m.Pairwise r → l = m
  | [], m, hp, _, _ => by simpa using hp.symm
  | a :: l, [], hp, _, _ => by simpa using hp.length_eq
  | a :: l, b :: m, hp, h1, h2 => by
    rw [List.pairwise_cons] at h1 h2
    have e : a = b := by
      rcases List.mem_cons.1 (hp.subset (List.mem_cons_self ..) : a ∈ b :: m) with e | e
      · exact e
      · rcases List.mem_cons.1 (hp.symm.subset (List.mem_cons_self ..) : b ∈ a :: l) with e2 | e2
        · exact e2.symm
        · exact anti a b (h1.1 b e2) (h2.1 a e)
    subst e
    rw [perm_uniq anti l m ((List.perm_cons a).1 hp) h1.2 h2.2]
theorem nmLe_trans (a b c : ByteArray) (h1 : (!nmLt b a) = true) (h2 : (!nmLt c b) = true) : (!nmLt c a) = true := by
  simp only [nmLt, Bool.not_eq_true', decide_eq_false_iff_not, List.not_lt] at *
  exact List.le_trans h1 h2
theorem nmLe_total (a b : ByteArray) : ((!nmLt b a) || (!nmLt a b)) = true := by
  rw [Bool.or_eq_true]
  simp only [nmLt, Bool.not_eq_true', decide_eq_false_iff_not, List.not_lt]
  exact List.le_total _ _
theorem sortN_pw (xs : List ByteArray) : (sortN xs).Pairwise (fun a b => (!nmLt b a) = true) := List.pairwise_mergeSort nmLe_trans nmLe_total xs
theorem sortN_perm' (xs : List ByteArray) : (sortN xs).Perm xs := List.mergeSort_perm xs _
theorem nmLe_anti (a b : ByteArray) (h1 : (!nmLt b a) = true) (h2 : (!nmLt a b) = true) : a = b := by
  simp only [nmLt, Bool.not_eq_true', decide_eq_false_iff_not, List.not_lt] at h1 h2
  exact ba_ext (List.le_antisymm h1 h2)
theorem sortN_perm {xs ys : List ByteArray} (h : xs.Perm ys) : sortN xs = sortN ys :=
  perm_uniq nmLe_anti _ _ ((sortN_perm' xs).trans (h.trans (sortN_perm' ys).symm)) (sortN_pw xs) (sortN_pw ys)
set_option maxHeartbeats 4000000 in
set_option maxRecDepth 100000 in
theorem sortedfunc_any (g : Nat) (lb : Array Value) (eg : ∀ args w, (callFunc g args).run Try.prog w = .ok (.enter g args) w) (S : List ByteArray → Prop) (N : Nat) (hN : N ≤ 1000000) (w : World) (hseq : SeqGives Fence.wide 1 Try.prog g lb kN S N w) :
    Calls Try.prog 69 #[.func (.func g) #[] lb, .func (.func 71) #[] #[]] w fun e w' => ∃ (v : Value) (xs : List ByteArray), e = .returned v ∧ S xs ∧ xs.length ≤ N ∧ w'.ownsRow w.heap.size 73 1 v xs.length ((sortN xs).map Value.string) ∧ Below w.heap.size w w' := by
  have hc := collect_any g lb eg _ N hN w hseq.bounded
  have HC := Aside0.mk hc
  clear hc hseq
  go_enter Try.func69, Try.ntmps69
  go_wp2_with (first
    | (go_at_call 81; refine HC.out.mono ?_; rintro e w9 ⟨v, xs, rfl, ⟨hS, hlen⟩, ho, hb⟩
       have HO := Aside0.mk (And.intro ho hb)
       have HS := Aside0.mk (And.intro hS hlen)
       clear ho hb hS hlen)
    | (go_at_call 82; refine (sortfunc_any HO.out.1 (Nat.le_trans HS.out.2 hN)).mono ?_; rintro e w8 ⟨rfl, ho8, hb8⟩))
  go_ret
  exact ⟨v, xs, rfl, HS.out.1, HS.out.2, ho8, hb8 _ _ (Nat.le_refl _) HO.out.2⟩
set_option maxHeartbeats 4000000 in
set_option maxRecDepth 100000 in
theorem sorted_any {w : World} {B : Nat} {es : List NE} (h : NMap w B es) (hl : es.length ≤ 1000000) :
    Calls Try.prog 51 #[.map (some B)] w fun e w' => ∃ v, e = .returned v ∧ w'.ownsRow w.heap.size 73 1 v es.length ((namesOf es).map Value.string) ∧ Below w.heap.size w w' := by
  have hk := mkeys_any h 1 (Nat.le_refl _)
  have HK := Aside0.mk hk
  clear hk h
  go_enter Try.func51, Try.ntmps51
  go_wp2_with (first
    | (go_at_call 70; refine HK.out.mono ?_; rintro e w9 ⟨rfl, hb, hG⟩
       have HG := Aside0.mk (And.intro hb hG)
       clear hb hG)
    | (go_at_call 69; refine (sortedfunc_any 83 _ (enters_of Try.func83 (by kernel_rfl) rfl) _ es.length hl _ HG.out.2).mono ?_; rintro e w8 ⟨v, xs, rfl, hS, hlen, ho, hb8⟩))
  go_ret
  have hp : sortN xs = namesOf es := sortN_perm hS
  have hle : xs.length = es.length := by have := hS.length_eq; simpa using this
  refine ⟨v, rfl, ?_, HG.out.1.trans (hb8.mono HG.out.1.size)⟩
  rw [← hp, ← hle]
  refine ⟨ho.1, ?_⟩
  rcases ho.2 with hh | ⟨g, cap, cur, hv, hg, rest⟩
  · exact .inl hh
  · exact .inr ⟨g, cap, cur, hv, Nat.le_trans HG.out.1.size hg, rest⟩
end Go.Proofs.Ytfbpplgpmgnmjaa.P

/- Names: the names in order, as texts. -/
namespace Go.Proofs.Ytfbpplgpmgnmjaa.P
open Go.RowKit Go.Proofs.YtfbpplgpmgnmjaaW.PrintWords Go.Proofs.YtfbpplgpmgnmjaaW.PrintLast Go.Proofs.YtfbpplgpmgnmjaaW.PrintMore
set_option linter.unusedVariables false
set_option linter.unusedSimpArgs false
theorem infoS9 : (Try.prog.info? 9).map (fun i => (i.zero, i.size, i.bytes)) = some (some (.string ⟨#[]⟩), 1, 16) := by kernel_rfl
theorem own_slice {W : World} {base e sz n : Nat} {v : Value} {inner : List Value} (h : W.ownsRow base e sz v n inner) : ∃ A c, v = .slice A n c ∧ n ≤ c ∧ (0 < n → ∃ g, A = some ⟨g, 0, none⟩ ∧ base ≤ g ∧ ∀ j u, inner[j]? = some u → W.cell? ⟨g, j, none⟩ = some u) := by
  rcases h.2 with ⟨rfl, rfl⟩ | ⟨g, cap, cur, rfl, hg, hb, h3, h4, h5, h6⟩
  · exact ⟨none, 0, rfl, Nat.le_refl _, fun h => by omega⟩
  · refine ⟨_, cap, rfl, h3, fun _ => ⟨g, rfl, hg, fun j u hu => (own_cell h hu).1⟩⟩
section
variable {w w' : World} {p m k : Nat} {ok ok' : Nat → Prop} {d : DS} {vf vc vx : Value}
set_option maxHeartbeats 4000000 in
set_option maxRecDepth 100000 in
theorem names_any (h : Dk w p m ok d) (hl : d.names.length ≤ 1000000) :
    Calls Try.prog 20 #[.pointer (some ⟨p, 0, none⟩)] w fun e w' => ∃ A c, e = .returned (.slice A (namesOf d.names).length c) ∧ Kd.R Kd.string 9 w' w.heap.size (fun _ => True) (.slice A (namesOf d.names).length c) (namesOf d.names) ∧ Below w.heap.size w w' := by
  obtain ⟨vf, vc, vx, k, h⟩ := h.ex
  have hc3 := h.c3
  have hS := sorted_any h.n hl
  have HS := Aside0.mk hS
  have hlen : (namesOf d.names).length = d.names.length := by simp [namesOf, sortN]
  obtain ⟨ns, hns⟩ : ∃ ns, ns = namesOf d.names := ⟨_, rfl⟩
  rw [← hns] at HS hlen ⊢
  obtain ⟨i0, hi, hz0, hz1, hz2⟩ := info_parts infoS9
  rw [← hlen] at HS hl
  clear h hS hlen hns
  go_enter Try.func20, Try.ntmps20
  go_wp2_with (go_at_call 51; refine HS.out.mono ?_; rintro e w1 ⟨v, rfl, ho, hb⟩
               obtain ⟨A, c, rfl, hcc, hcell⟩ := own_slice ho
               have HO := Aside0.mk (And.intro ho hb)
               have HC := Aside0.mk hcell
               clear ho hb hcell)
  try go_frame
  go_loopg [3, 12] ns.length (fun gk v3 v12 wr => ∃ i : Nat, v12 = .int .i64 (i : Nat) ∧ Aside0 (gk + i = ns.length) ∧ Aside0 (wr.ownsRow w.heap.size 9 1 v3 i ((ns.take i).map Value.string)) ∧ Aside0 (Below w.heap.size w wr) ∧ Aside0 (wr.ownsRow w.heap.size 73 1 (.slice A ns.length c) ns.length (ns.map Value.string)))
  case atStart => exact ⟨0, rfl, ⟨by omega⟩, ⟨⟨by simp, .inl ⟨rfl, rfl⟩⟩⟩, ⟨HO.out.2⟩, ⟨HO.out.1⟩⟩
  case round =>
    obtain ⟨i, rfl, HK, HR, HB, HN⟩ := hrel
    by_cases hlt : i < ns.length
    · obtain ⟨g, rfl, hg, _⟩ := HC.out (by omega)
      obtain ⟨x, hx⟩ : ∃ x, ns[i]? = some x := ⟨ns[i], by simp [hlt]⟩
      have hcx : wr.cell? ⟨g, i, none⟩ = some (.string x) := (own_cell HN.out (by simp [hx])).1
      have hd1 : decide ((i : Int) < (ns.length : Int)) = true := decide_eq_true (by omega)
      have hne2 : ∀ W : World, W.ownsRow w.heap.size 9 1 u3 i ((ns.take i).map Value.string) → W.ownsRow w.heap.size 73 1 (.slice (some ⟨g, 0, none⟩) ns.length c) ns.length (ns.map Value.string) → u3.ownBlock ≠ some g := fun W h1 h2 => by
        rcases h1.2 with ⟨hv, _⟩ | ⟨g', cap', cur', hv, _, hb', _⟩
        · rw [hv]; simp [Value.ownBlock]
        · rw [hv]
          intro e
          obtain rfl : g' = g := by simpa [Value.ownBlock] using e
          rcases h2.2 with ⟨hv2, _⟩ | ⟨g2, cap2, cur2, hv2, _, hb2, _⟩
          · cases hv2
          · simp only [Value.slice.injEq, Option.some.injEq, Addr.mk.injEq, true_and, and_true] at hv2
            obtain ⟨rfl, rfl⟩ := hv2
            rw [hb'] at hb2
            have := (Obj.cells.inj (Option.some.inj hb2)).2.1
            exact absurd this (by decide)
      have HNE := Aside0.mk (hne2 wr HR.out HN.out)
      clear hne2
      have hcell := cell_one_new (wr.alloc (.cells #[.string x] 73)) (.string x) 9
      rw [World.size_alloc] at hcell
      have HCN := Aside0.mk hcell
      have hx1 : (wr.alloc (.cells #[.string x] 73)).cell? ⟨wr.heap.size, 0, none⟩ = some (.string x) := (blk_cell (blk_new wr _) 0).trans rfl
      have HX := Aside0.mk hx
      clear hcell hx
      go_wp2_with (at_builtin; refine wpList_append_own _ rfl _ _ 38 rfl w.heap.size 9 i0 (.string ⟨#[]⟩) 1 16 Try.underlying38 hi hz0 hz1 hz2 rfl (by decide) _ _ _ rfl ((HR.out.alloc _).alloc _) ⟨wr.heap.size + 1, 0, none⟩ 1 1 [.string x] rfl rfl HCN.out (by simp [Value.oneCell']) (by unfold maxLen; omega) (by omega) (by have := HB.out.size; simp; omega) ?_; intro v' w3 hown' hg3 hnil3
                   go_loud (have HN3 := Aside0.mk (((HN.out.alloc (.cells #[.string x] 73)).alloc (.cells #[.string x] 9)).kept hg3 (.inr (fun e => HNE.out (show u3.ownBlock = some g from Eq.symm e)))))
                   go_loud (have HB3 := Aside0.mk ((below_alloc (below_alloc HB.out (.cells #[.string x] 73)) (.cells #[.string x] 9)).grown hg3 (by have := HB.out.size; simp; omega) (fun k e => (HR.out.lt k e).1)))
                   have HW3 := Aside0.mk hown'
                   clear hown' hg3 hnil3)
      go_roundg (gk - 1)
      case measure => have := HK.out; omega
      case rel =>
        refine ⟨i + 1, by first | rfl | (congr 1; omega), ⟨by have := HK.out; omega⟩, ⟨?_⟩, HB3, HN3⟩
        have h3 := HW3.out
        rw [List.take_add_one, HX.out]
        simpa using h3
    · have hd1 : decide ((i : Int) < (ns.length : Int)) = false := decide_eq_false (by omega)
      have hin : i = ns.length := by have := HK.out; omega
      go_wp2
      go_ret
      have ho := HR.out
      rw [hin, List.take_length] at ho
      obtain ⟨A2, c2, hv, hc2, _⟩ := own_slice ho
      subst hv
      exact ⟨A2, c2, rfl, Kd.R_of_own ho (fun _ _ => trivial), HB.out⟩
end
end Go.Proofs.Ytfbpplgpmgnmjaa.P

