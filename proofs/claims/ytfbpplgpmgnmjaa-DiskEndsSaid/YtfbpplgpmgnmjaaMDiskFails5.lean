/- Texts of DiskFails. Merged: HDskW, HDskX. -/
import Derived.Test.YtfbpplgpmgnmjaaMDiskFails4
import Derived.Test.YtfbpplgpmgnmjaaQDiskFailsHDskH
/- Crash: what it computes; the disk that it builds, row by row. -/
namespace Go.Proofs.Ytfbpplgpmgnmjaa.P
open Go.RowKit Go.Proofs.YtfbpplgpmgnmjaaW.PrintWords Go.Proofs.YtfbpplgpmgnmjaaW.PrintLast Go.Proofs.YtfbpplgpmgnmjaaW.PrintMore
set_option linter.unusedVariables false
set_option linter.unusedSimpArgs false
/-- The changes that are left, done to the names that were kept. -/
def leftNames (d : DS) (q : Nat) : List NE := (d.changes.take q).foldl do1 d.kept
def leftN (d : DS) (n : Int) : Nat := (min (max n 0) (d.changes.length : Int)).toNat
def zC : DC := (⟨#[]⟩, (⟨#[]⟩, 0))
/-- A change's three cells. -/
theorem change_at {W : World} {b : Nat} {ok : Nat → Prop} {v : Value} {cs : List DC} (h : Kd.V kC 81 W b ok v cs) (i : Nat) (hi : i < cs.length) : ∃ ad cap, v = .slice (some ad) cs.length cap ∧ cs.length ≤ cap ∧ W.cell? (ad.add (i * 3)) = some (.string (cs.getD i zC).1) ∧ W.cell? ⟨(ad.add (i * 3)).block, (ad.add (i * 3)).off + 1, none⟩ = some (.string (cs.getD i zC).2.1) ∧ W.cell? ⟨(ad.add (i * 3)).block, (ad.add (i * 3)).off + 2, none⟩ = some (.int .i64 (cs.getD i zC).2.2) := by
  obtain ⟨A, cap, rfl, hc, hF⟩ := h
  obtain ⟨ad, l, rfl, hcl, hK, hcc, _⟩ := Kd.F_get hF zC (i : Int) (by omega) (by omega)
  simp only [Int.toNat_natCast] at hK hcc
  obtain rfl := kC_open hK
  have hc2 : ∀ j u, ([Value.string (cs.getD i zC).1, .string (cs.getD i zC).2.1, .int .i64 (cs.getD i zC).2.2] : List Value)[j]? = some u → W.cell? (ad.add (i * 3 + j)) = some u := hcc
  exact ⟨ad, cap, rfl, hc, hc2 0 _ rfl, by rw [← add_field _ _ 1 (by omega)]; exact hc2 1 _ rfl, by rw [← add_field _ _ 2 (by omega)]; exact hc2 2 _ rfl⟩
theorem take_succ' {α : Type} (l : List α) (i : Nat) (z : α) (hi : i < l.length) : l.take (i + 1) = l.take i ++ [l.getD i z] := by
  rw [List.take_add_one]
  simp [List.getD, hi]
def crashEnd (f : DF) (tails : List Int) (i : Nat) : Int := if tails.length = 0 then f.2 else f.2 + ((tails.getD (i % tails.length) 0).tmod ((f.1.length : Int) - f.2 + 1) + ((f.1.length : Int) - f.2 + 1)).tmod ((f.1.length : Int) - f.2 + 1)
def crashFile (f : DF) (tails : List Int) (i : Nat) : DF := (f.1.take (crashEnd f tails i).toNat, crashEnd f tails i)
def crashFiles (fs : List DF) (es : List NE) (tails : List Int) : List DF := (namesOf es).mapIdx (fun i x => crashFile (fs.getD ((tget es x).getD 0).toNat zF) tails i)
def crashNames (es : List NE) : List NE := (namesOf es).mapIdx (fun i x => (x, (i : Int)))
def crash (d : DS) (n : Int) (tails : List Int) : DS := { DS.new d.quota with files := crashFiles d.files (leftNames d (leftN d n)) tails, names := crashNames (leftNames d (leftN d n)), kept := crashNames (leftNames d (leftN d n)) }
theorem tmod_range (t L : Int) (hL : 1 ≤ L) : 0 ≤ (t.tmod L + L).tmod L ∧ (t.tmod L + L).tmod L < L ∧ -L < t.tmod L ∧ t.tmod L < L := by
  have h1 : -L < t.tmod L := by
    have := Int.lt_tmod_of_pos t (show 0 < L by omega)
    omega
  have h2 : t.tmod L < L := Int.tmod_lt_of_pos t (by omega)
  exact ⟨Int.tmod_nonneg _ (by omega), Int.tmod_lt_of_pos _ (by omega), h1, h2⟩
theorem crashEnd_range (f : DF) (tails : List Int) (i : Nat) (h0 : 0 ≤ f.2) (h1 : f.2 ≤ f.1.length) : f.2 ≤ crashEnd f tails i ∧ crashEnd f tails i ≤ f.1.length := by
  unfold crashEnd
  split
  · omega
  · have := tmod_range (tails.getD (i % tails.length) 0) ((f.1.length : Int) - f.2 + 1) (by omega)
    omega
theorem tix_none : ∀ (es : List NE) (a : ByteArray), a ∉ es.map Prod.fst → tix es a = none
  | [], _, _ => rfl
  | e :: es, a, h => by
    simp only [List.map_cons, List.mem_cons, not_or] at h
    unfold tix
    rw [if_neg h.1, tix_none es a h.2]
    rfl
theorem tput_new (es : List NE) (a : ByteArray) (v : Int) (h : a ∉ es.map Prod.fst) : tput es a v = es ++ [(a, v)] := by
  unfold tput
  rw [tix_none es a h]
theorem tget_some : ∀ (es : List NE) (a : ByteArray), a ∈ es.map Prod.fst → ∃ v, tget es a = some v
  | [], _, h => by simp at h
  | e :: es, a, h => by
    unfold tget
    split
    · exact ⟨_, rfl⟩
    · rename_i hc
      simp only [List.map_cons, List.mem_cons] at h
      exact tget_some es a (h.resolve_left hc)
theorem Kept.belowB {w W W2 : World} {S : Nat → Prop} (h : Kept w W S) (hb : Below w.heap.size W W2) : Kept w W2 S :=
  ⟨Nat.le_trans h.1 hb.size, fun i hi hn => (hb.block i hi).trans (h.2 i hi hn), hb.os.trans h.3.1, hb.tape.trans h.3.2.1, hb.output.trans h.3.2.2⟩
/-- The disk that is built: its block, its names, its files so far. -/
structure CR (w3 : World) (p2 m2 k2 : Nat) (qd : Int) (xs : List DF) (nm : List NE) (v : Value) (wr : World) : Prop where
  b : wr.heap[p2]? = some (.cells (cellsD (DS.new qd) v (.slice none 0 0) (.slice none 0 0) m2 k2) 71 (0, 0))
  n : NMap wr m2 nm
  o : Kd.N kF 78 wr w3.heap.size (fun q => w3.heap.size ≤ q) v xs
  k : Kept w3 wr (fun i => i = p2 ∨ i = m2)
section
variable {w3 : World} {p2 m2 k2 : Nat} {qd : Int} {xs : List DF} {nm : List NE} {v : Value} {wr w2 : World}
theorem CR.below (h : CR w3 p2 m2 k2 qd xs nm v wr) (hb : Below wr.heap.size wr w2) : CR w3 p2 m2 k2 qd xs nm v w2 :=
  ⟨(hb.block p2 (blk_lt h.b)).trans h.b, h.n.below hb, Kd.N_below h.o hb, h.k.below hb⟩
theorem CR.push (h : CR w3 p2 m2 k2 qd xs nm v wr) (hp : p2 < w3.heap.size) (hm : m2 < w3.heap.size) (hpm : p2 ≠ m2) {w8 : World} {v1 : Value} {y : DF} (hN : Kd.N kF 78 w8 w3.heap.size (fun q => w3.heap.size ≤ q) v1 (xs ++ [y])) (hb : Below w3.heap.size wr w8) :
    CR w3 p2 m2 k2 qd (xs ++ [y]) nm v1 (w8.setCell ⟨p2, 2, none⟩ v1) := by
  refine ⟨blk_put ((hb.block p2 hp).trans h.b) 2 v1 (by simp [cellsD]), h.n.same ((Below.heap_setCell w8 _ _ m2 hpm.symm).trans (hb.block m2 hm)), Kd.N_step hN (fun q hq _ => Below.heap_setCell w8 _ _ q (fun e => by have : q = p2 := e; omega)), (h.k.belowB hb).setCell (.inl (.inl rfl)) _⟩
theorem CR.put (h : CR w3 p2 m2 k2 qd xs nm v wr) (hp : p2 < w3.heap.size) (hm : m2 < w3.heap.size) (hpm : p2 ≠ m2) {o : Obj} {nm' : List NE} (hn : NMap (wr.putObj m2 o) m2 nm') : CR w3 p2 m2 k2 qd xs nm' v (wr.putObj m2 o) :=
  ⟨(World.putObj_heap_other hpm).trans h.b, hn, Kd.N_step h.o (fun q hq _ => World.putObj_heap_other (by omega)), h.k.then_ (Kept.put1 wr m2 o) (fun q hq => .inl (.inr hq))⟩
end
/-- New, its blocks told. -/
structure BornX (w : World) (qd : Int) (e : Ending) (w' : World) : Prop where
  ex : ∃ p m k, e = .returned (.pointer (some ⟨p, 0, none⟩)) ∧ w.heap.size ≤ p ∧ w.heap.size ≤ m ∧ w.heap.size ≤ k ∧ k ≠ p ∧ k ≠ m ∧ m ≠ p ∧ Below w.heap.size w w' ∧ w'.heap[p]? = some (.cells (cellsD (DS.new qd) (.slice none 0 0) (.slice none 0 0) (.slice none 0 0) m k) 71 (0, 0)) ∧ NMap w' m [] ∧ NMap w' k []
theorem bornx_new (q q' : Int) (w : World) (hq : q' = max q 0) {w1 : World} (hw : w1 = (((w.alloc (.map #[] 0)).alloc (.map #[] 0)).alloc (.cells #[.int .i64 q', .int .i64 0, .slice none 0 0, .map (some w.heap.size), .map (some (w.heap.size + 1)), .slice none 0 0, .slice none 0 0, .int .i64 (-1), .bool false] 71))) : BornX w q (.returned (.pointer (some ⟨w.heap.size + 1 + 1, 0, none⟩))) w1 := by
  subst hq
  have e1 : (w.alloc (.map #[] 0)).heap.size = w.heap.size + 1 := by simp
  have e2 : ((w.alloc (.map #[] 0)).alloc (.map #[] 0)).heap.size = w.heap.size + 1 + 1 := by simp
  have h1 := NMap.new w
  have h2 := NMap.new (w.alloc (.map #[] 0))
  rw [e1] at h2
  have h3 := blk_new ((w.alloc (.map #[] 0)).alloc (.map #[] 0)) (.cells #[.int .i64 (max q 0), .int .i64 0, .slice none 0 0, .map (some w.heap.size), .map (some (w.heap.size + 1)), .slice none 0 0, .slice none 0 0, .int .i64 (-1), .bool false] 71)
  rw [e2] at h3
  subst hw
  exact ⟨_, w.heap.size, w.heap.size + 1, rfl, by omega, by omega, by omega, by omega, by omega, by omega, below_alloc (below_alloc (below_alloc (Below.refl _ _) _) _) _, h3, (h1.below (below_alloc (Below.refl _ _) _)).below (below_alloc (Below.refl _ _) _), h2.below (below_alloc (Below.refl _ _) _)⟩
set_option maxHeartbeats 4000000 in
set_option maxRecDepth 100000 in
theorem newx_any (q : Int) (w : World) : Calls Try.prog 10 #[.int .i64 q] w (BornX w q) := by
  have hmm := @run_makeMap Try.prog
  go_enter Try.func10, Try.ntmps10
  go_wp2
  all_goals go_ret
  exact bornx_new q (max q 0) w rfl rfl
theorem crashFiles_at {fs : List DF} {es : List NE} {tails : List Int} {i : Nat} {x : ByteArray} (h : (namesOf es)[i]? = some x) : (crashFiles fs es tails)[i]? = some (crashFile (fs.getD ((tget es x).getD 0).toNat zF) tails i) := by simp [crashFiles, List.getElem?_mapIdx, h]
theorem crashNames_at {es : List NE} {i : Nat} {x : ByteArray} (h : (namesOf es)[i]? = some x) : (crashNames es)[i]? = some (x, (i : Int)) := by simp [crashNames, List.getElem?_mapIdx, h]
theorem crashNames_keys (es : List NE) : (crashNames es).map Prod.fst = namesOf es := by
  apply List.ext_getElem?
  intro i
  simp only [crashNames, List.getElem?_map, List.getElem?_mapIdx]
  cases (namesOf es)[i]? <;> rfl
theorem names_len (es : List NE) : (namesOf es).length = es.length := by simp [namesOf, sortN]
theorem crashFiles_len (fs : List DF) (es : List NE) (tails : List Int) : (crashFiles fs es tails).length = es.length := by simp [crashFiles, names_len]
theorem crashNames_len (es : List NE) : (crashNames es).length = es.length := by simp [crashNames, names_len]
theorem take_at {α : Type} {l : List α} {i : Nat} {y : α} (h : l[i]? = some y) : l.take (i + 1) = l.take i ++ [y] := by rw [List.take_add_one, h]; rfl
theorem tput_crash {es : List NE} {i : Nat} {x : ByteArray} (hnd : (es.map Prod.fst).Nodup) (h : (namesOf es)[i]? = some x) : tput ((crashNames es).take i) x (i : Int) = (crashNames es).take (i + 1) := by
  rw [take_at (crashNames_at h)]
  refine tput_new _ _ _ ?_
  rw [List.map_take, crashNames_keys]
  have hn : (namesOf es).Nodup := (sortN_perm' (es.map Prod.fst)).nodup_iff.2 hnd
  intro hm
  obtain ⟨j, hj⟩ := List.mem_iff_getElem?.1 hm
  rw [List.getElem?_take] at hj
  split at hj
  · rename_i hlt
    obtain ⟨hl1, e1⟩ := List.getElem?_eq_some_iff.1 h
    obtain ⟨hl2, e2⟩ := List.getElem?_eq_some_iff.1 hj
    exact (List.pairwise_iff_getElem.1 hn) j i hl2 hl1 hlt (e2.trans e1.symm)
  · cases hj
/-- append(x.files, file): in a region that draws. -/
theorem crash_push {w3 wx w7 : World} {p2 m2 k2 : Nat} {qd : Int} {XS : List DF} {nm : List NE} {Av A' : Option Addr} {i cv c' E : Nat} {fe : List Int} {ops : Array Oper} {o : Oper} {a : Act} {K : Act → World → Prop} {Q : Exit → Act → World → Prop} {R : Prop}
    (hgd : o.guard = none) (s x : Operand) (ho : o.op = .call { callee := .builtin .append, args := #[s, x], argTypes := #[68, 68] })
    (hs : a.eval s = .slice Av i cv) (hx : a.eval x = .slice (some ⟨w7.heap.size, 0, none⟩) 1 1)
    (hcr : CR w3 p2 m2 k2 qd XS nm (.slice Av i cv) w7) (hF : Kd.F (Kd.int .u8) w7 (fun q => wx.heap.size ≤ q) A' E fe) (hc : E ≤ c') (hxl : XS.length = i) (hfl : fe.length = E) (hb7 : Below wx.heap.size wx w7)
    (hN0 : Kd.N kF 78 wx w3.heap.size (fun q => w3.heap.size ≤ q) (.slice Av i cv) XS) (hw3 : w3.heap.size ≤ wx.heap.size) (hlen : i ≤ 1000000) (hp : p2 < w3.heap.size) (hm : m2 < w3.heap.size) (hpm : p2 ≠ m2)
    (h : ∀ Av8 c8 w8, CR w3 p2 m2 k2 qd (XS ++ [(fe, (E : Int))]) nm (.slice Av8 (i + 1) c8) (w8.setCell ⟨p2, 2, none⟩ (.slice Av8 (i + 1) c8)) → w8.cell? ⟨p2, 2, none⟩ = some (.slice Av i cv) → w8.frozen? ⟨p2, 2, none⟩ = false →
      (∀ q, q < w7.heap.size → some q ≠ (Value.slice Av i cv).ownBlock → q ≠ p2 → (w8.setCell ⟨p2, 2, none⟩ (.slice Av8 (i + 1) c8)).heap[q]? = w7.heap[q]?) → K (a.put o.dst (.slice Av8 (i + 1) c8)) w8) :
    if Region.wanted o (yielded ops a.tmps) = true then Oper.wp Try.prog o a (w7.alloc (.cells #[.slice A' E c', .int .i64 (E : Nat)] 78)) K Q else R := by
  have hw : Region.wanted o (yielded ops a.tmps) = true := by simp [Region.wanted, hgd]
  rw [if_pos hw]
  have hvl := Kd.N_lt hN0
  have key := Kd.N_append_step (ops := ops) (Q := Q) (Kc := K) kF (w0 := w7) (W := w7) w3.heap.size hw s x 68 78 (.agg #[.slice none 0 0, .int .i64 0]) 32 ho Try.underlying68 infoF rfl (by decide) (by decide)
    (.slice Av i cv) XS (fe, (E : Int)) [.slice A' E c', .int .i64 (E : Nat)] (fun q => w3.heap.size ≤ q) (fun q => wx.heap.size ≤ q) hs hx
    (by subst hfl; exact kF_mk (x := (fe, ((fe.length : Nat) : Int))) hc hF) (fun q hq => ⟨by omega, fun e => by have := hvl q e.symm; omega⟩) (fun q hq => by have := hb7.size; omega) hcr.o (Below.refl _ _) (by have := hb7.size; omega) (by rw [hxl]; omega) (fun v1 w8 hN hB hg _ => ?_)
  · rw [if_pos hw] at key
    exact key
  · obtain ⟨Av8, c8, rfl⟩ := Kd.N_slice hN
    have hl8 : (XS ++ [(fe, (E : Int))]).length = i + 1 := by simp [hxl]
    rw [hl8] at hN ⊢
    have hb8 := (hB.block p2 hp).trans hcr.b
    refine h Av8 c8 w8 (hcr.push hp hm hpm hN hB) ((blk_cell hb8 2).trans rfl) (blk_frozen hb8 2) (fun q hq hne hqp => ?_)
    exact (Below.heap_setCell w8 _ _ q hqp).trans (hg.block q hq hne)
theorem CR.born {w w3 : World} {p2 m2 k2 : Nat} {d : DS} {n : Int} {tails : List Int} {v : Value} {wr : World} (h : CR w3 p2 m2 k2 d.quota (crashFiles d.files (leftNames d (leftN d n)) tails) (crashNames (leftNames d (leftN d n))) v wr) (hb : Below w.heap.size w w3) (hp : w.heap.size ≤ p2) (hm : w.heap.size ≤ m2) (hp3 : p2 < w3.heap.size) (hm3 : m2 < w3.heap.size) (hpm : p2 ≠ m2) {o : Obj} (hn : NMap (wr.alloc o) wr.heap.size (crashNames (leftNames d (leftN d n)))) :
    Born w (crash d n tails) (.returned (.pointer (some ⟨p2, 0, none⟩))) ((wr.alloc o).setCell ⟨p2, 4, none⟩ (.map (some wr.heap.size))) := by
  have hw3 := h.k.1
  have hbw := hb.size
  have hk : Kept w ((wr.alloc o).setCell ⟨p2, 4, none⟩ (.map (some wr.heap.size))) (fun _ => False) := (((Kept.of_below hb (fun _ => False)).then_ h.k (fun q hq => .inr (by rcases hq with rfl | rfl <;> omega))).alloc o).setCell (.inr hp) _
  have hN := Kd.N_V (base' := 0) (Kd.N_step (Kd.N_alloc h.o o) (w1 := (wr.alloc o).setCell ⟨p2, 4, none⟩ (.map (some wr.heap.size))) (fun q hq _ => Below.heap_setCell _ _ _ q (fun e => by have : q = p2 := e; omega)))
  refine ⟨p2, m2, rfl, hp, hm, hk.to_below (fun _ h => h.elim), v, .slice none 0 0, .slice none 0 0, wr.heap.size, ?_, ?_, ?_, ⟨by omega, by omega, by omega⟩, ?_, Kd.V_nil _ _ _ _ _, Kd.V_nil _ _ _ _ _, fun _ h => h.2⟩
  · exact blk_put (blk_alloc h.b o) 4 _ (by simp [cellsD, crash])
  · exact (h.n.below (below_alloc (Below.refl _ _) o)).same (Below.heap_setCell _ _ _ m2 hpm.symm)
  · exact hn.same (Below.heap_setCell _ _ _ wr.heap.size (by simp only; omega))
  · exact Kd.V_mono hN (fun q hq => ⟨by omega, by omega, by omega⟩)
end Go.Proofs.Ytfbpplgpmgnmjaa.P

/- Crash: the walk. -/
namespace Go.Proofs.Ytfbpplgpmgnmjaa.P
open Go.RowKit Go.Proofs.YtfbpplgpmgnmjaaW.PrintWords Go.Proofs.YtfbpplgpmgnmjaaW.PrintLast Go.Proofs.YtfbpplgpmgnmjaaW.PrintMore
set_option linter.unusedVariables false
set_option linter.unusedSimpArgs false
section
variable {w w' : World} {p m k : Nat} {ok ok' : Nat → Prop} {d : DS} {vf vc vx : Value}
set_option maxHeartbeats 4000000 in
set_option maxRecDepth 100000 in
theorem crash_any (h : Dk w p m (far p m) d) (n : Int) (tails : List Int) (At : Option Addr) (ct : Nat) (ht : Kd.C (Kd.int .i64) w At tails.length tails) (hct : tails.length ≤ ct)
    (hl : d.changes.length ≤ 1000000) (hnl : (leftNames d (leftN d n)).length ≤ 1000000)
    (hno : NamesOk d.files (leftNames d (leftN d n))) (hnd : ((leftNames d (leftN d n)).map Prod.fst).Nodup) (hsf : ∀ f ∈ d.files, 0 ≤ f.2 ∧ f.2 ≤ f.1.length ∧ f.1.length ≤ 1000000000000) (htl : tails.length ≤ 1000000) :
    Calls Try.prog 17 #[.pointer (some ⟨p, 0, none⟩), .int .i64 n, .slice At tails.length ct] w (Born w (crash d n tails)) := by
  obtain ⟨vf, vc, vx, k, h⟩ := h.ex
  have mixed : Try.prog.follows Departure.mixedOrders = true := rfl
  have hc4 := h.c4
  have HM := Aside0.mk (mclone_any h.kp)
  have HD := Aside0.mk h
  have HT := Aside0.mk ht
  have HNL := Aside0.mk (And.intro hnl (And.intro hno (And.intro hnd hsf)))
  obtain ⟨dc, hdc⟩ : ∃ dc, dc = crash d n tails := ⟨_, rfl⟩
  rw [← hdc]
  have HDC := Aside0.mk hdc
  clear h ht hnl hno hnd hsf hdc
  go_enter Try.func17, Try.ntmps17
  go_upto_region 2 with (go_at_call 49; refine HM.out.mono ?_; rintro e w1 ⟨rfl, hn1, o, hw1⟩
                         have hb1 : Below w.heap.size w w1 := by rw [hw1]; exact below_alloc (Below.refl _ _) o
                         have H1 := Aside0.mk (And.intro hn1 hb1)
                         clear hw1 hn1 hb1)
  have hd1 := HD.out.below H1.out.2
  obtain ⟨Ac, cc, rfl, hcc, hFc⟩ := hd1.c
  have hc5 := hd1.drew.c5
  clear hFc hd1
  go_big_region_o
  go_wp2_with fail
  obtain ⟨q, hq⟩ : ∃ q : Nat, q = leftN d n := ⟨_, rfl⟩
  have hqm : min (max n 0) (d.changes.length : Int) = (q : Int) := by rw [hq]; unfold leftN; omega
  have hql : q ≤ d.changes.length := by omega
  rw [hqm]
  simp only [Int.toNat_natCast, show max (q : Int) 0 = (q : Int) by omega]
  have HQ := Aside0.mk hq
  clear hqm hq
  try go_frame
  go_loopg [35] q (fun gk v35 wr => ∃ i : Nat, v35 = .int .i64 (i : Nat) ∧ Aside0 (gk + i = q) ∧ Aside0 (NMap wr w.heap.size (leftNames d i)) ∧ Aside0 (Below w.heap.size w wr))
  case atStart => exact ⟨0, rfl, ⟨by omega⟩, ⟨H1.out.1.below (below_drew1 (Below.refl _ _))⟩, ⟨below_drew1 H1.out.2⟩⟩
  case round =>
    obtain ⟨i, rfl, HK, HN, HB⟩ := hrel
    by_cases hlt : i < q
    · have hdr := HD.out.below HB.out
      obtain ⟨ad, cap, hvc, hcap, e0, e1, e2⟩ := change_at hdr.c i (by omega)
      injection hvc with ha _ hcp
      subst ha
      subst hcp
      have hd1 : decide ((i : Int) < (q : Int)) = true := decide_eq_true (by omega)
      obtain ⟨c1, c2, c3, hcx⟩ : ∃ c1 c2 c3, d.changes.getD i zC = (c1, c2, c3) := ⟨_, _, _, rfl⟩
      rw [hcx] at e0 e1 e2
      simp only at e0 e1 e2
      have HCX := Aside0.mk hcx
      have HW := Aside0.mk (do_any (leftNames d i) (c1, c2, c3) w.heap.size (wr.alloc (.cells #[.string c1, .string c2, .int .i64 c3] 81)) (HN.out.below (below_alloc (Below.refl _ _) _)))
      clear hdr hcx
      go_wp2_with (go_at_call 50; refine HW.out.mono ?_; rintro e w9 ⟨rfl, H9⟩)
      go_roundg (gk - 1)
      case measure => have := HK.out; omega
      case rel =>
        refine ⟨i + 1, by first | rfl | (congr 1; omega), ⟨by have := HK.out; omega⟩, ⟨?_⟩, ⟨?_⟩⟩
        · have := H9.out.1
          unfold leftNames at this ⊢
          rw [take_succ' d.changes i zC (by omega), List.foldl_append, HCX.out]
          exact this
        · exact ((Kept.of_below (below_alloc HB.out (.cells #[.string c1, .string c2, .int .i64 c3] 81)) (fun _ => False)).then_ H9.out.2 (fun q hq => .inr (Nat.le_of_eq hq.symm))).to_below (fun _ h => h.elim)
    · have hd1 : decide ((i : Int) < (q : Int)) = false := decide_eq_false (by omega)
      have hin : i = q := by have := HK.out; omega
      have hN := HN.out
      rw [hin] at hN
      have hdr := HD.out.below HB.out
      have hc0 := hdr.c0
      have HNq := Aside0.mk hN
      clear hN hdr HN
      have HNL2 := HNL.out
      rw [← HQ.out] at HNL2
      have HNLq := Aside0.mk HNL2
      clear HNL2
      obtain ⟨L, hL⟩ : ∃ L, L = leftNames d q := ⟨_, rfl⟩
      rw [← hL] at HNq HNLq
      have HLq := Aside0.mk hL
      clear hL
      go_wp2_with (first
        | (go_at_call 10; refine (newx_any d.quota wr).mono ?_; rintro e w2 ⟨p2, m2, k2, rfl, hp2, hm2, hk2, hkp, hkm, hmp, hb2, hblk, hn2, hkn⟩
           have HX := Aside0.mk (And.intro hblk (And.intro hn2 (And.intro hkn (And.intro hb2 (And.intro hp2 (And.intro hm2 (And.intro hk2 (And.intro hkp (And.intro hkm hmp)))))))))
           have HS := Aside0.mk (sorted_any (HNq.out.below hb2) HNLq.out.1)
           clear hblk hn2 hkn hb2 hp2 hm2 hk2 hkp hkm hmp)
        | (go_at_call 51; refine HS.out.mono ?_; rintro e w3 ⟨v, rfl, ho3, hb3⟩
           obtain ⟨Ag, cg, rfl, hcg, hcell⟩ := own_slice ho3
           have HO := Aside0.mk (And.intro ho3 hb3)
           have HG := Aside0.mk hcell
           clear ho3 hb3 hcell))
      have hlen : (namesOf L).length = L.length := by simp [namesOf, sortN]
      obtain ⟨ns, hns⟩ : ∃ ns, ns = namesOf L := ⟨_, rfl⟩
      rw [← hns] at HO hlen HG
      have HNS := Aside0.mk hns
      have hlen2 : L.length = ns.length := hlen.symm
      rw [hlen2] at HO HG hcg ⊢
      clear hns hlen hlen2
      have HP2 := Aside0.mk (show p2 < w3.heap.size ∧ m2 < w3.heap.size ∧ k2 < w3.heap.size ∧ w.heap.size < w3.heap.size ∧ w.heap.size < p2 ∧ w.heap.size < m2 ∧ m2 ≠ p2 from by
        have h1 := blk_lt HX.out.1
        have h2 := HX.out.2.1.lt
        have h3 := HX.out.2.2.1.lt
        have h4 := HO.out.2.size
        have h5 := HNq.out.lt
        have h6 := HX.out.2.2.2.2.1
        have h7 := HX.out.2.2.2.2.2.1
        exact ⟨by omega, by omega, by omega, by omega, by omega, by omega, HX.out.2.2.2.2.2.2.2.2.2⟩)
      have HB3 := Aside0.mk (show Below w.heap.size w w3 from HB.out.trans ((HX.out.2.2.2.1.trans (HO.out.2.mono HX.out.2.2.2.1.size)).mono HB.out.size))
      have HC0 := Aside0.mk (show CR w3 p2 m2 k2 d.quota [] [] (.slice none 0 0) w3 from ⟨(HO.out.2.block p2 (blk_lt HX.out.1)).trans HX.out.1, HX.out.2.1.below HO.out.2, Kd.N_nil _ _ _ _ _, Kept.refl _ _⟩)
      try go_frame
      go_loopg [51] ns.length (fun gk v51 wr => ∃ (i : Nat) (v : Value), v51 = .int .i64 (i : Nat) ∧ Aside0 (gk + i = ns.length) ∧ Aside0 (CR w3 p2 m2 k2 d.quota ((crashFiles d.files L tails).take i) ((crashNames L).take i) v wr))
      case atStart => exact ⟨0, _, rfl, ⟨by omega⟩, HC0⟩
      case round =>
        obtain ⟨i2, v, rfl, HK2, HC⟩ := hrel
        by_cases hlt2 : i2 < ns.length
        · have hi2b : i2 < 1000000 := by
            have h1 := HNLq.out.1
            have h2 : ns.length = L.length := by rw [HNS.out]; exact names_len L
            omega
          have hBw : Below w.heap.size w wr := ((Kept.of_below HB3.out (fun _ => False)).then_ HC.out.k (fun q hq => .inr (by have := HP2.out; rcases hq with rfl | rfl <;> omega))).to_below (fun _ h => h.elim)
          have hdr := HD.out.below hBw
          obtain ⟨g, rfl, hg, hgc⟩ := HG.out (by omega)
          have hp2w := blk_lt HX.out.1
          have hm2w := HX.out.2.1.lt
          obtain ⟨x, hx⟩ : ∃ x, ns[i2]? = some x := ⟨ns[i2], by simp [hlt2]⟩
          have hcx : wr.cell? ⟨g, i2, none⟩ = some (.string x) := kept_cell HC.out.k ⟨g, i2, none⟩ (fun e => by have e2 : g = p2 ∨ g = m2 := e; omega) (hgc i2 _ (by simp [hx]))
          have hxm : x ∈ L.map Prod.fst := (sortN_perm' (L.map Prod.fst)).mem_iff.1 (by have := List.mem_of_getElem? hx; rw [HNS.out] at this; exact this)
          obtain ⟨f, hf⟩ := tget_some L x hxm
          obtain ⟨fi, rfl, hfi⟩ := HNLq.out.2.1.at hf
          obtain ⟨ad, cap, A, c, hvf, hcap, e0, e1, hcc2, hF⟩ := file_at hdr.f fi hfi
          have hsf := HNLq.out.2.2.2 (d.files.getD fi zF) (by simp [List.getD, hfi])
          have hN3 : NMap wr w.heap.size L := ((HNq.out.below HX.out.2.2.2.1).below HO.out.2).same (HC.out.k.2 w.heap.size HP2.out.2.2.2.1 (fun e => by have := HP2.out; omega))
          obtain ⟨wr10, hw10⟩ : ∃ wr10, wr10 = wr.alloc (.cells #[.string x] 73) := ⟨_, rfl⟩
          have hb10 : Below wr.heap.size wr wr10 := by rw [hw10]; exact below_alloc (Below.refl _ _) _
          have hx10 : wr10.heap[wr.heap.size]? = some (.cells #[.string x] 73 (0, 0)) := by rw [hw10]; exact blk_new _ _
          have hlk0 : (Instr.lookup 67 (.map (some w.heap.size)) (.agg #[.string x]) false).run Try.prog wr10.drew = .ok (.int .i64 (fi : Nat)) wr10.drew := by
            have := ((hN3.below hb10).below (below_drew1 (Below.refl _ _))).look1 (W := wr10.drew) x
            rw [hf] at this
            exact this
          have e00 := cell_old hb10 e0
          have e10 := cell_old hb10 e1
          have hc20 := cell_old hb10 hdr.c2
          have hxc0 : wr10.cell? ⟨wr.heap.size, 0, none⟩ = some (.string x) := (blk_cell hx10 0).trans rfl
          have hlk : ∀ ob, (Instr.lookup 67 (.map (some w.heap.size)) (.agg #[.string x]) false).run Try.prog (wr10.alloc ob).drew = .ok (.int .i64 (fi : Nat)) (wr10.alloc ob).drew := fun ob => by
            have := (((hN3.below hb10).below (below_alloc (Below.refl _ _) ob)).below (below_drew1 (Below.refl _ _))).look1 (W := (wr10.alloc ob).drew) x
            rw [hf] at this
            exact this
          have e0 := fun ob => cell_old (below_alloc hb10 ob) e0
          have e1 := fun ob => cell_old (below_alloc hb10 ob) e1
          have hc2 := fun ob => cell_old (below_alloc hb10 ob) hdr.c2
          have hxc : ∀ ob, (wr10.alloc ob).cell? ⟨wr.heap.size, 0, none⟩ = some (.string x) := fun ob => (blk_cell (blk_alloc hx10 ob) 0).trans rfl
          subst hvf
          obtain ⟨fb, sf, hfb⟩ : ∃ fb sf, d.files.getD fi zF = (fb, sf) := ⟨_, _, rfl⟩
          rw [hfb] at e0 e1 e00 e10 hcc2 hF hsf
          simp only at e0 e1 e00 e10 hcc2 hF hsf
          have HFB := Aside0.mk hfb
          have HXm := Aside0.mk (And.intro hx hf)
          have H10 := Aside0.mk (And.intro hb10 (And.intro hx10 hBw))
          have HW10 := Aside0.mk hw10
          have HF := Aside0.mk hF
          have HS := Aside0.mk hsf
          have hd2 : decide ((i2 : Int) < (ns.length : Int)) = true := decide_eq_true (by omega)
          have s0 := hsf.1
          have s1 := hsf.2.1
          have s2 := hsf.2.2
          clear hfb hx hf hb10 hx10 hw10 hF hsf hN3 hdr hgc hxm
          go_wp2_with fail
          rw [← HW10.out]
          go_big_region_o
          go_upto_if 76 with fail
          clear hlk hlk0 e0 e1 e00 e10 hc2 hc20 hxc hxc0 hcx hc0 hc5 hc4
          have hbc : Below wr.heap.size wr (wr10.alloc (.cells #[.slice A fb.length c, .int .i64 sf] 78)).drew := below_drew1 (below_alloc H10.out.1 _)
          have hxn : (wr10.alloc (.cells #[.slice A fb.length c, .int .i64 sf] 78)).drew.heap[wr.heap.size]? = some (.cells #[.string x] 73 (0, 0)) := blk_drew (blk_alloc H10.out.2.1 _)
          have hfn : (wr10.alloc (.cells #[.slice A fb.length c, .int .i64 sf] 78)).drew.heap[wr10.heap.size]? = some (.cells #[.slice A fb.length c, .int .i64 sf] 78 (0, 0)) := blk_drew (blk_new wr10 _)
          generalize (wr10.alloc (.cells #[.slice A fb.length c, .int .i64 sf] 78)).drew = wc at hbc hxn hfn ⊢
          have hrg := crashEnd_range (fb, sf) tails i2 s0 s1
          simp only at hrg
          obtain ⟨E, hE⟩ : ∃ E : Nat, (E : Int) = crashEnd (fb, sf) tails i2 := ⟨(crashEnd (fb, sf) tails i2).toNat, by omega⟩
          rw [← hE] at hrg
          have hE0 : E ≤ fb.length := by omega
          clear hrg
          have HE := Aside0.mk hE
          have HWC := Aside0.mk (And.intro hbc (And.intro hxn hfn))
          clear hbc hxn hfn
          generalize hLf : (fb.length : Int) - sf + 1 = Lf
          have hLf1 : 1 ≤ Lf := by omega
          have hLf2 : Lf ≤ 1000000000001 := by omega
          go_cut [15] (fun v15 wx => v15 = .int .i64 (E : Nat) ∧ wx = wc)
          case first =>
            unfold crashEnd at hE
            by_cases ht0 : tails.length = 0
            · rw [if_pos ht0] at hE
              simp only at hE
              have hd3 : decide ((tails.length : Int) > 0) = false := decide_eq_false (by omega)
              go_wp2_with fail
              go_meet
              case rel => exact ⟨by rw [hE], rfl⟩
            · rw [if_neg ht0] at hE
              simp only at hE
              rw [hLf] at hE
              have hd3 : decide ((tails.length : Int) > 0) = true := decide_eq_true (by omega)
              obtain ⟨r, hr⟩ : ∃ r, r = i2 % tails.length := ⟨_, rfl⟩
              have hmi : (i2 : Int).tmod (tails.length : Int) = (r : Int) := by rw [hr]; rfl
              have hml : r < tails.length := by rw [hr]; exact Nat.mod_lt _ (by omega)
              rw [← hr] at hE
              obtain ⟨tt, htt⟩ : ∃ tt, tt = tails.getD r 0 := ⟨_, rfl⟩
              rw [← htt] at hE
              obtain ⟨adt, cst, hat, hcl, hKt, hct2⟩ := Kd.C_get (Kd.C_below HT.out (H10.out.2.2.trans (HWC.out.1.mono H10.out.2.2.size))) 0 (r : Int) (by omega) (by omega)
              have hcs : cst = [.int .i64 tt] := by rw [htt]; exact hKt
              rw [hcs] at hct2
              have hct3 : wc.cell? (adt.add r) = some (.int .i64 tt) := by have := hct2 0 _ rfl; simpa [Kd.int, Kd.scalar] using this
              subst hat
              obtain ⟨m1, m2_, m3, m4⟩ := tmod_range tt Lf hLf1
              obtain ⟨R, hR⟩ : ∃ R, tt.tmod Lf = R := ⟨_, rfl⟩
              rw [hR] at m1 m2_ m3 m4 hE
              obtain ⟨R2, hR2⟩ : ∃ R2, (R + Lf).tmod Lf = R2 := ⟨_, rfl⟩
              rw [hR2] at m1 m2_ hE
              have HLf := Aside0.mk hLf
              clear hLf hKt hct2 hcs hcl htt hr
              go_wp2_with fail
              go_meet
              case rel => exact ⟨by rw [hE], rfl⟩
          case rest =>
            obtain ⟨rfl, rfl⟩ := hcut
            clear hLf hLf1 hLf2 hE
            have HCc := Aside0.mk (HC.out.below HWC.out.1)
            have hvl := Kd.N_lt HC.out.o
            obtain ⟨Av, cv, rfl⟩ := Kd.N_slice HCc.out.o
            obtain ⟨XS, hXS⟩ : ∃ XS, XS = (crashFiles d.files L tails).take i2 := ⟨_, rfl⟩
            have hnl : ns.length = L.length := by rw [HNS.out]; exact names_len L
            have hxl : XS.length = i2 := by rw [hXS, List.length_take, crashFiles_len]; omega
            rw [← hXS] at HCc HC hvl
            rw [hxl] at HCc HC hvl
            have HXS := Aside0.mk (And.intro hXS hxl)
            have HVL := Aside0.mk hvl
            have hcp : wc.cell? ⟨p2, 2, none⟩ = some (.slice Av i2 cv) := (blk_cell HCc.out.b 2).trans rfl
            have hfp : wc.frozen? ⟨p2, 2, none⟩ = false := blk_frozen HCc.out.b 2
            have hff : wc.cell? ⟨wr10.heap.size, 0, none⟩ = some (.slice A fb.length c) := (blk_cell HWC.out.2.2 0).trans rfl
            have hcut : ∀ W, (Instr.slice 22 (.slice A fb.length c) none (some (.int .i64 (E : Nat))) none).run Try.prog W = .ok (.slice A E c) W := fun W => by
              obtain ⟨i0, hi0, _, hsz0, _⟩ := info_parts info5
              have := cut_to (P := Try.prog) 22 5 .i64 Try.underlying22 hi0 A fb.length c (E : Int) (by omega) (by omega) hcc2 W
              simpa using this
            have hlE : (fb.take E).length = E := by rw [List.length_take]; omega
            obtain ⟨fe, hfe⟩ : ∃ fe, fe = fb.take E := ⟨_, rfl⟩
            rw [← hfe] at hlE
            have hcl : Calls Try.prog 52 #[.slice A E c] wc.drew fun e w7 => ∃ A' c', e = .returned (.slice A' E c') ∧ E ≤ c' ∧ Kd.F (Kd.int .u8) w7 (fun q => wc.heap.size ≤ q) A' E fe ∧ Below wc.heap.size wc w7 := by
              have h0 : Kd.C (Kd.int .u8) wc.drew A fe.length fe := by
                rw [hfe]
                exact Kd.C_take (Kd.C_drew (Kd.C_below (Kd.F_now HF.out) HWC.out.1)) (by omega)
              have := slices_Clone_byte_byte.calls A c fe fe wc.drew h0 (by omega) (by simp [slices_Clone_byte_byte.f]; omega)
              rw [hlE] at this
              refine this.mono ?_
              rintro e w7 ⟨v7, rfl, hR, hb⟩
              obtain ⟨A', c', rfl⟩ := Kd.R_slice hR
              have hF7 := Kd.R_F (ok := fun q => wc.heap.size ≤ q) ⟨fun q hq => by obtain ⟨inner, ho⟩ := Kd.R_own hR; exact (ho.lt q hq).1, hR.2⟩
              have hc7 := (Kd.R_reads' hR).2.1
              rw [hlE] at hF7 hc7 ⊢
              exact ⟨A', c', rfl, hc7, hF7, below_step (below_drew1 (Below.refl _ _)) hb⟩
            have HCL := Aside0.mk hcl
            have HFE := Aside0.mk (And.intro hfe hlE)
            clear hcl hlE hfe hXS hxl hvl hnl
            go_upto_region 16 with fail
            go_cut [] (fun wy => Aside0 (∃ v', CR w3 p2 m2 k2 d.quota (XS ++ [(fe, (E : Int))]) ((crashNames L).take i2) v' wy ∧ wy.heap[wr.heap.size]? = some (.cells #[.string x] 73 (0, 0))))
            case first =>
              go_region_law_o
                (first
                  | (refine goes_ Try.func52 (by kernel_rfl) rfl #[.slice A E c] (by rfl) rfl rfl (by simp only [List.map_toArray, List.map_cons, List.map_nil]; rfl) ?_; with_reducible refine HCL.out.mono ?_; rintro e w7 ⟨A', c', rfl, hc', hF7, hb7⟩
                     have hcr7 := HCc.out.below hb7
                     have hcp7 : w7.cell? ⟨p2, 2, none⟩ = some (.slice Av i2 cv) := (blk_cell hcr7.b 2).trans rfl
                     have hcp7a : ∀ ob, (w7.alloc ob).cell? ⟨p2, 2, none⟩ = some (.slice Av i2 cv) := fun ob => (blk_cell (blk_alloc hcr7.b ob) 2).trans rfl
                     have H7 := Aside0.mk (And.intro hcr7 (And.intro hF7 (And.intro hb7 hc')))
                     clear hcr7 hF7 hb7 hc'
                     refine ⟨_, rfl, ?_⟩)
                  | (refine crash_push (fe := fe) (A' := A') (c' := c') rfl (.tmp 96) (.tmp 104) rfl rfl rfl H7.out.1 H7.out.2.1 H7.out.2.2.2 HXS.out.2 HFE.out.2 H7.out.2.2.1 HCc.out.o HCc.out.k.1 (by omega) HP2.out.1 HP2.out.2.1 (Ne.symm HP2.out.2.2.2.2.2.2) ?_
                     intro Av8 c8 w8 hcr8 hcp8 hfp8 hgr8
                     have hxn7 := (H7.out.2.2.1.block _ (blk_lt HWC.out.2.1)).trans HWC.out.2.1
                     have hxn8 := (hgr8 _ (blk_lt hxn7) (fun e => Nat.lt_irrefl _ (HVL.out _ e.symm)) (fun e => by have h1 := HC.out.k.1; have h2 := HP2.out.1; omega)).trans hxn7
                     have H8 := Aside0.mk (And.intro hcr8 hxn8)
                     clear hcr8 hgr8 hxn7 hxn8))
              all_goals
                go_wp2_with fail
                go_meet
                case rel => exact ⟨⟨_, H8.out.1, H8.out.2⟩⟩
            case rest =>
              obtain ⟨⟨v', hcr, hxn⟩⟩ := hcut
              have hy : XS ++ [(fe, (E : Int))] = (crashFiles d.files L tails).take (i2 + 1) := by
                have hns : (namesOf L)[i2]? = some x := by rw [← HNS.out]; exact HXm.out.1
                have h1 := take_at (crashFiles_at (fs := d.files) (tails := tails) hns)
                rw [HXm.out.2] at h1
                simp only [Option.getD_some, Int.toNat_natCast] at h1
                rw [HFB.out] at h1
                rw [h1, HXS.out.1]
                unfold crashFile
                rw [← HE.out, HFE.out.1]
                simp
              rw [hy] at hcr
              have hnm : tput ((crashNames L).take i2) x (i2 : Int) = (crashNames L).take (i2 + 1) := tput_crash HNLq.out.2.2.1 (by rw [← HNS.out]; exact HXm.out.1)
              obtain ⟨W9, hpu, hn9, o9, hw9⟩ := (hcr.n.below (below_drew1 (Below.refl _ _))).put (W := wc.drew) x (i2 : Int)
              rw [hnm] at hn9
              have hcr9 := Aside0.mk (show CR w3 p2 m2 k2 d.quota ((crashFiles d.files L tails).take (i2 + 1)) ((crashNames L).take (i2 + 1)) v' W9 by
                rw [hw9] at hn9 ⊢
                exact (hcr.below (below_drew1 (Below.refl _ _))).put HP2.out.1 HP2.out.2.1 (Ne.symm HP2.out.2.2.2.2.2.2) hn9)
              have hc3 : wc.cell? ⟨p2, 3, none⟩ = some (.map (some m2)) := (blk_cell hcr.b 3).trans rfl
              have hxc : wc.cell? ⟨wr.heap.size, 0, none⟩ = some (.string x) := (blk_cell hxn 0).trans rfl
              unfold kN at hpu
              clear hcr hxn hy hnm hn9 hw9 hcp hfp hff hcut
              go_wp2_with fail
              go_big_region_o
              go_wp2_with fail
              go_roundg (gk - 1)
              case measure => have := HK2.out; omega
              case rel => exact ⟨i2 + 1, v', by first | rfl | (congr 1; omega), ⟨by have := HK2.out; omega⟩, hcr9⟩
        · have hd2 : decide ((i2 : Int) < (ns.length : Int)) = false := decide_eq_false (by omega)
          have hin2 : i2 = ns.length := by have := HK2.out; omega
          have hcr := HC.out
          have hnl : ns.length = L.length := by rw [HNS.out]; exact names_len L
          rw [hin2, hnl, show L.length = (crashFiles d.files L tails).length from (crashFiles_len _ _ _).symm, List.take_length, crashFiles_len, show L.length = (crashNames L).length from (crashNames_len _).symm, List.take_length] at hcr
          have hc3 : wr.cell? ⟨p2, 3, none⟩ = some (.map (some m2)) := (blk_cell hcr.b 3).trans rfl
          have HM2 := Aside0.mk (mclone_any hcr.n)
          have HCR := Aside0.mk hcr
          clear hcr hnl
          go_wp2_with (go_at_call 49; refine HM2.out.mono ?_; rintro e w7 ⟨rfl, hn7, o7, hw7⟩
                       have hb7 : w7.heap[p2]? = some (.cells (cellsD (DS.new d.quota) v (.slice none 0 0) (.slice none 0 0) m2 k2) 71 (0, 0)) := by rw [hw7]; exact blk_alloc HCR.out.b o7
                       have hc47 : w7.cell? ⟨p2, 4, none⟩ = some (.map (some k2)) := (blk_cell hb7 4).trans rfl
                       have hf47 : w7.frozen? ⟨p2, 4, none⟩ = false := blk_frozen hb7 4
                       have H7 := Aside0.mk (And.intro hn7 hw7)
                       clear hn7 hw7 hb7)
          go_ret
          have hcr := HCR.out
          have hn7 := H7.out.1
          rw [H7.out.2] at hn7 ⊢
          rw [HLq.out, HQ.out] at hcr hn7
          rw [HDC.out]
          exact CR.born hcr HB3.out (by have := HP2.out; omega) (by have := HP2.out; omega) HP2.out.1 HP2.out.2.1 (Ne.symm HP2.out.2.2.2.2.2.2) hn7
end
end Go.Proofs.Ytfbpplgpmgnmjaa.P

