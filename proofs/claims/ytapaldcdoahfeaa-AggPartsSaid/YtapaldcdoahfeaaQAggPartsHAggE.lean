/- Texts of AggParts. Merged: HAggE. -/
import Derived.Test.YtapaldcdoahfeaaQAggPartsHAggC
/- agg.Join, by hand: cells of two parts, joined. -/
namespace Go.Proofs.Ytapaldcdoahfeaa.P
open Go.RowKit Go.Proofs.YtapaldcdoahfeaaW.PrintWords Go.Proofs.YtapaldcdoahfeaaW.PrintLast Go.Proofs.YtapaldcdoahfeaaW.PrintMore
set_option linter.unusedVariables false
set_option linter.unusedSimpArgs false

/-- Two cells as one. -/
def aggBoth2 (k : Nat) (kd t : Int) (c d : S42) : Option S42 :=
 if c.f0 = true then (if d.f0 = true then (aggJ k kd t c.f1 d.f1).bind fun p => some ⟨true, ⟨p.1, p.2⟩⟩ else some c) else some d
def aggJoin (k : Nat) (T : List Int) : List S33 → List S42 → List S42 → Option (List S42)
 | [], _, _ => some []
 | x :: l, c :: cs, d :: ds => if 1 ≤ x.f0 ∧ x.f0 ≤ 4 ∧ 0 ≤ x.f1 ∧ x.f1 < (T.length : Int) then (aggBoth2 k x.f0 (rd T x.f1) c d).bind fun r => (aggJoin k T l cs ds).bind fun rs => some (r :: rs) else none
 | _ :: _, _, _ => none
def agg_Join.f (k : Nat) (T : List Int) (a b d : Int) (l : List S33) (cs ds : List S42) : Option (List S42) :=
 if l.length ≤ 1000000 then aggJoin k T l cs ds else none
theorem aggBoth2_mono (kd t : Int) (c d : S42) (k : Nat) : LeO (aggBoth2 k kd t c d) (aggBoth2 (k + 1) kd t c d) := by
 unfold aggBoth2
 split
 ·split
  ·exact LeO.bind (aggJ_mono _ _ _ _ _) (fun _ => LeO.refl _)
  ·exact LeO.refl _
 ·exact LeO.refl _
theorem aggJoin_mono (T : List Int) (k : Nat) : ∀ (l : List S33) (cs ds : List S42), LeO (aggJoin k T l cs ds) (aggJoin (k + 1) T l cs ds)
 | [], _, _ => LeO.refl _
 | x :: l, c :: cs, d :: ds => by
  unfold aggJoin
  split
  ·exact LeO.bind (aggBoth2_mono _ _ _ _ _) (fun _ => LeO.bind (aggJoin_mono T k l cs ds) (fun _ => LeO.refl _))
  ·exact LeO.refl _
 | x :: l, [], ds => LeO.refl _
 | x :: l, c :: cs, [] => LeO.refl _
theorem agg_Join.mono (T : List Int) (a b d : Int) (l : List S33) (cs ds : List S42) (k : Nat) : LeO (agg_Join.f k T a b d l cs ds) (agg_Join.f (k + 1) T a b d l cs ds) := by
 unfold agg_Join.f
 split
 ·exact aggJoin_mono _ _ _ _ _
 ·exact LeO.refl _
theorem aggJoin_step {k : Nat} {T : List Int} {l : List S33} {cs ds : List S42} {i : Nat} (hi : i < l.length) {rest : List S42} (h : aggJoin k T (l.drop i) (cs.drop i) (ds.drop i) = some rest) :
  (i < cs.length ∧ i < ds.length) ∧ (1 ≤ (rd_T33 l (i : Int)).f0 ∧ (rd_T33 l (i : Int)).f0 ≤ 4 ∧ 0 ≤ (rd_T33 l (i : Int)).f1 ∧ (rd_T33 l (i : Int)).f1 < (T.length : Int)) ∧
   ∃ c rest', aggBoth2 k (rd_T33 l (i : Int)).f0 (rd T (rd_T33 l (i : Int)).f1) (rd_T42 cs (i : Int)) (rd_T42 ds (i : Int)) = some c ∧ aggJoin k T (l.drop (i + 1)) (cs.drop (i + 1)) (ds.drop (i + 1)) = some rest' ∧ rest = c :: rest' := by
 have e : rd_T33 l (i : Int) = l[i] := by simp [rd_T33, List.getD, hi]
 rw [List.drop_eq_getElem_cons hi] at h
 rcases Nat.lt_or_ge i cs.length with h1 | h1
 ·rcases Nat.lt_or_ge i ds.length with h2 | h2
  ·have e1 : rd_T42 cs (i : Int) = cs[i] := by simp [rd_T42, List.getD, h1]
   have e2 : rd_T42 ds (i : Int) = ds[i] := by simp [rd_T42, List.getD, h2]
   rw [List.drop_eq_getElem_cons h1, List.drop_eq_getElem_cons h2] at h
   rw [e, e1, e2]
   unfold aggJoin at h
   by_cases hk : 1 ≤ (l[i]).f0 ∧ (l[i]).f0 ≤ 4 ∧ 0 ≤ (l[i]).f1 ∧ (l[i]).f1 < (T.length : Int)
   ·rw [if_pos hk] at h
    obtain ⟨c, q1, h⟩ := Option.bind_eq_some_iff.mp h
    obtain ⟨rs, q2, h⟩ := Option.bind_eq_some_iff.mp h
    exact ⟨⟨h1, h2⟩, hk, c, rs, q1, q2, (Option.some.inj h).symm⟩
   ·rw [if_neg hk] at h
    exact absurd h (by simp)
  ·rw [List.drop_eq_getElem_cons h1, List.drop_of_length_le h2] at h
   exact absurd h (by simp [aggJoin])
 ·rw [List.drop_of_length_le h1] at h
  exact absurd h (by simp [aggJoin])
/-- How two cells of a kind are joined. -/
structure WayOk2 (k : Nat) (kd : Int) (vw : Value) : Prop where
 both : ∀ (t : Int) (c d r : S42) (W : World), aggBoth2 k kd t c d = some r → Calls Try.prog 22 #[vw, .int .i64 t, .agg #[.bool c.f0, .int .i64 c.f1.f0, .string c.f1.f1], .agg #[.bool d.f0, .int .i64 d.f1.f0, .string d.f1.f1]] W fun e w' => e = .returned (.agg #[.bool r.f0, .int .i64 r.f1.f0, .string r.f1.f1]) ∧ Below W.heap.size W w'
theorem both2_of {k : Nat} {kd t : Int} {c d r : S42} {W : World} {vw : Value}
  (h0 : ∀ (a1 : Int) (a2 : ByteArray) (b0 : Bool) (b1 : Int) (b2 : ByteArray), Calls Try.prog 22 #[vw, .int .i64 t, .agg #[.bool false, .int .i64 a1, .string a2], .agg #[.bool b0, .int .i64 b1, .string b2]] W fun e w' => e = .returned (.agg #[.bool b0, .int .i64 b1, .string b2]) ∧ Below W.heap.size W w')
  (h1 : ∀ (a1 : Int) (a2 : ByteArray) (b1 : Int) (b2 : ByteArray), Calls Try.prog 22 #[vw, .int .i64 t, .agg #[.bool true, .int .i64 a1, .string a2], .agg #[.bool false, .int .i64 b1, .string b2]] W fun e w' => e = .returned (.agg #[.bool true, .int .i64 a1, .string a2]) ∧ Below W.heap.size W w')
  (h2 : ∀ (a1 : Int) (a2 : ByteArray) (b1 : Int) (b2 : ByteArray) (j1 : Int) (j2 : ByteArray), aggJ k kd t ⟨a1, a2⟩ ⟨b1, b2⟩ = some (j1, j2) → Calls Try.prog 22 #[vw, .int .i64 t, .agg #[.bool true, .int .i64 a1, .string a2], .agg #[.bool true, .int .i64 b1, .string b2]] W fun e w' => e = .returned (.agg #[.bool true, .int .i64 j1, .string j2]) ∧ Below W.heap.size W w')
  (h : aggBoth2 k kd t c d = some r) : Calls Try.prog 22 #[vw, .int .i64 t, .agg #[.bool c.f0, .int .i64 c.f1.f0, .string c.f1.f1], .agg #[.bool d.f0, .int .i64 d.f1.f0, .string d.f1.f1]] W fun e w' => e = .returned (.agg #[.bool r.f0, .int .i64 r.f1.f0, .string r.f1.f1]) ∧ Below W.heap.size W w' := by
 obtain ⟨c0, c1, c2⟩ := c
 obtain ⟨d0, d1, d2⟩ := d
 unfold aggBoth2 at h
 cases c0 with
 | false =>
  rw [if_neg (by simp)] at h
  obtain rfl := Option.some.inj h
  exact h0 _ _ _ _ _
 | true =>
  rw [if_pos rfl] at h
  cases d0 with
  | false =>
   rw [if_neg (by simp)] at h
   obtain rfl := Option.some.inj h
   exact h1 _ _ _ _
  | true =>
   rw [if_pos rfl] at h
   obtain ⟨⟨j1, j2⟩, hj, h⟩ := Option.bind_eq_some_iff.mp h
   obtain rfl := Option.some.inj h
   exact h2 _ _ _ _ _ _ hj
theorem ways_index2 (k : Nat) (kd : Int) (h1 : 1 ≤ kd) (h4 : kd ≤ 4) : ∃ b0 fo fj, WayOk2 k kd (.agg #[.bool b0, .int .i64 0, .string (⟨#[]⟩ : ByteArray), .func (.func fo) #[] #[], .func (.func fj) #[] #[]]) ∧ ∀ W : World, (Instr.index 60 (.agg waysA) (.int .i64 kd)).run Try.prog W = .ok (.agg #[.bool b0, .int .i64 0, .string (⟨#[]⟩ : ByteArray), .func (.func fo) #[] #[], .func (.func fj) #[] #[]]) W := by
 have hk : kd = 1 ∨ kd = 2 ∨ kd = 3 ∨ kd = 4 := by omega
 rcases hk with rfl | rfl | rfl | rfl
 ·refine ⟨true, 25, 26, ⟨fun t c d r W h => both2_of (k := k) (kd := 1) (fun a1 a2 b0 b1 b2 => both26_0 _ _ _ _ _ _ _ _ _ _ _) (fun a1 a2 b1 b2 => both26_1 _ _ _ _ _ _ _ _ _ _) (fun a1 a2 b1 b2 j1 j2 hj => both26_2 _ _ _ _ _ _ _ _ _ _ _ _ (fun W => agg_plus.calls _ _ _ _ _ _ _ W (by simpa [aggJ] using hj))) h⟩, ?_⟩
  intro W
  rfl
 ·refine ⟨true, 27, 26, ⟨fun t c d r W h => both2_of (k := k) (kd := 2) (fun a1 a2 b0 b1 b2 => both26_0 _ _ _ _ _ _ _ _ _ _ _) (fun a1 a2 b1 b2 => both26_1 _ _ _ _ _ _ _ _ _ _) (fun a1 a2 b1 b2 j1 j2 hj => both26_2 _ _ _ _ _ _ _ _ _ _ _ _ (fun W => agg_plus.calls _ _ _ _ _ _ _ W (by simpa [aggJ] using hj))) h⟩, ?_⟩
  intro W
  rfl
 ·refine ⟨false, 27, 28, ⟨fun t c d r W h => both2_of (k := k) (kd := 3) (fun a1 a2 b0 b1 b2 => both28_0 _ _ _ _ _ _ _ _ _ _ _) (fun a1 a2 b1 b2 => both28_1 _ _ _ _ _ _ _ _ _ _) (fun a1 a2 b1 b2 j1 j2 hj => both28_2 _ _ _ _ _ _ _ _ _ _ _ _ (fun W => agg_least.calls k _ _ _ _ _ _ _ W (by simpa [aggJ] using hj))) h⟩, ?_⟩
  intro W
  rfl
 ·refine ⟨false, 27, 29, ⟨fun t c d r W h => both2_of (k := k) (kd := 4) (fun a1 a2 b0 b1 b2 => both29_0 _ _ _ _ _ _ _ _ _ _ _) (fun a1 a2 b1 b2 => both29_1 _ _ _ _ _ _ _ _ _ _) (fun a1 a2 b1 b2 j1 j2 hj => both29_2 _ _ _ _ _ _ _ _ _ _ _ _ (fun W => agg_most.calls k _ _ _ _ _ _ _ W (by simpa [aggJ] using hj))) h⟩, ?_⟩
  intro W
  rfl

set_option maxHeartbeats 8000000 in
set_option maxRecDepth 100000 in
theorem agg_Join.calls (k : Nat) (A : Option Addr) (c : Nat) (T : List Int) (a b d : Int) (AL : Option Addr) (cL : Nat) (l : List (S33)) (AP : Option Addr) (cP : Nat) (ps : List (S42)) (AQ : Option Addr) (cQ : Nat) (qs : List (S42)) (r : List (S42)) (w : World)
  (hT : Kd.C (Kd.int .i64) w A T.length T) (hc : T.length ≤ c) (hL : Kd.C k33 w AL l.length l) (hcL : l.length ≤ cL) (hP : Kd.C k42 w AP ps.length ps) (hcP : ps.length ≤ cP) (hQ : Kd.C k42 w AQ qs.length qs) (hcQ : qs.length ≤ cQ) (h : agg_Join.f k T a b d l ps qs = some r) :
  Calls Try.prog 15 #[.agg #[.slice A T.length c, .int .i64 a, .int .i64 b, .int .i64 d], .slice AL l.length cL, .slice AP ps.length cP, .slice AQ qs.length cQ] w fun e w' => ∃ v0_ : Value, e = .returned (v0_) ∧ Kd.R k42 42 w' w.heap.size (fun _ => True) v0_ r ∧ Below w.heap.size w w' := by
 unfold agg_Join.f at h
 by_cases hn : l.length ≤ 1000000
 case neg => rw [if_neg hn] at h; exact absurd h (by simp)
 rw [if_pos hn] at h
 have hu29 := Try.underlying29
 have hu33 := Try.underlying33
 have hu42 := Try.underlying42
 have hu59 := Try.underlying59
 have hu60 := Try.underlying60
 have HT := Aside0.mk hT
 have HL := Aside0.mk hL
 have HPS := Aside0.mk hP
 have HQS := Aside0.mk hQ
 have HC := Aside0.mk (And.intro hc (And.intro hcL (And.intro hcP hcQ)))
 have HLN := Aside0.mk hn
 have HH := Aside0.mk (show ∃ rest, aggJoin k T (l.drop 0) (ps.drop 0) (qs.drop 0) = some rest ∧ r = [] ++ rest from ⟨r, by rw [List.drop_zero, List.drop_zero, List.drop_zero]; exact h, rfl⟩)
 have HB := Aside0.mk (Below.refl w.heap.size w)
 clear hT hc hL hcL hP hcP hQ hcQ h hn
 go_enter Try.func15, Try.ntmps15
 go_wp2_with (first | ((with_reducible refine gate_dst (N := 4) rfl ?_); refine box_event ?hg (N := 4) ?hd (cs := #[.slice A T.length c, .int .i64 a, .int .i64 b, .int .i64 d]) (t := 29) ?hr ?_; (case hd => rfl); (case hg => rfl); (case hr => first | (go_simp; done) | (go_simp; rfl)); intro gs hg w4 hbox hb; have GEgs := Aside0.mk ((by rw [hg]; exact below_size HB.out) : w.heap.size ≤ gs); have n0_ := Aside0.mk (below_step HB.out hb); clear HB; have HB := n0_; clear n0_; have BKgs := Aside0.mk hbox; clear hb hbox hg))
 go_loopg [9, 14] l.length (fun kq v9 v14 w' => ∃ (i : Nat) (out : List (S42)), v14 = .int .i64 i ∧ Aside0 (i + kq = l.length) ∧ Aside0 (out.length = i) ∧ Aside0 (∃ rest, aggJoin k T (l.drop i) (ps.drop i) (qs.drop i) = some rest ∧ r = out ++ rest) ∧ Aside0 (Kd.R k42 42 w' w.heap.size (fun _ => True) v9 out) ∧ Aside0 (w'.heap[gs]? = some (.cells #[.slice A T.length c, .int .i64 a, .int .i64 b, .int .i64 d] 29 (0, 0))) ∧ Aside0 (Below w.heap.size w w'))
 case atStart => exact ⟨0, [], rfl, ⟨by omega⟩, ⟨rfl⟩, HH, ⟨Kd.R_nil _ _ _ _ _⟩, BKgs, HB⟩
 case round =>
  clear HH
  obtain ⟨i, out, rfl, HK1, HON, HA, HO, BKgs, HB⟩ := hrel
  by_cases hlt : i < l.length
  ·obtain ⟨m1, hm1⟩ : ∃ m, m + 1 = gk := ⟨gk - 1, by have := HK1.out; omega⟩
   have HM := Aside0.mk hm1
   have HI := Aside0.mk hlt
   clear hm1
   obtain ⟨rest, ha, hr⟩ := HA.out
   obtain ⟨⟨hip, hiq⟩, ⟨k1_, k4_, p0, p1⟩, cr, rest', h1, h2, h3⟩ := aggJoin_step hlt ha
   have HA' := Aside0.mk (show ∃ rest, aggJoin k T (l.drop (i + 1)) (ps.drop (i + 1)) (qs.drop (i + 1)) = some rest ∧ r = (out ++ [cr]) ++ rest from ⟨rest', h2, by rw [hr, h3]; simp⟩)
   clear HA hr h2 h3 ha
   obtain ⟨ad, e, hx0, hx1⟩ := at_T33 HL.out (i : Int) (by omega) (by omega)
   obtain ⟨adp, ep, hp0, hp1, hp2⟩ := at_T42 HPS.out (i : Int) (by omega) (by omega)
   obtain ⟨adq, eq, hq0, hq1, hq2⟩ := at_T42 HQS.out (i : Int) (by omega) (by omega)
   simp only [Int.toNat_natCast] at hx0 hx1 hp0 hp1 hp2 hq0 hq1 hq2
   obtain ⟨x, hx⟩ : ∃ x, x = rd_T33 l (i : Int) := ⟨_, rfl⟩
   obtain ⟨cp, hcp⟩ : ∃ x, x = rd_T42 ps (i : Int) := ⟨_, rfl⟩
   obtain ⟨cq, hcq⟩ : ∃ x, x = rd_T42 qs (i : Int) := ⟨_, rfl⟩
   rw [← hx] at h1 hx0 hx1 k1_ k4_ p0 p1
   rw [← hcp] at h1 hp0 hp1 hp2
   rw [← hcq] at h1 hq0 hq1 hq2
   clear hx hcp hcq
   cases e
   cases ep
   cases eq
   obtain ⟨b0, fo, fj, hw_, hix⟩ := ways_index2 k x.f0 k1_ k4_
   have HW := Aside0.mk hw_
   clear hw_ k1_ k4_
   obtain ⟨adT, eT, hT0⟩ := Kd.at_int HT.out x.f1 p0 p1
   obtain ⟨t, ht⟩ : ∃ t, t = rd T x.f1 := ⟨_, rfl⟩
   rw [← ht] at hT0 h1
   clear ht
   cases eT
   have HF := Aside0.mk h1
   clear h1
   have hT0' := Aside0.mk hT0
   have hPQ' := Aside0.mk (And.intro hp0 (And.intro hp1 (And.intro hp2 (And.intro hq0 (And.intro hq1 hq2)))))
   clear hT0 hp0 hp1 hp2 hq0 hq1 hq2
   replace hx0 := (HB.out.cell (World.block_lt_of_cell? w _ hx0)).trans hx0
   replace hx1 := (HB.out.cell (World.block_lt_of_cell? w _ hx1)).trans hx1
   have hlt' : decide ((i : Int) < (l.length : Int)) = true := decide_eq_true (by omega)
   have p2 : (0 ≤ (i : Int)) = True := eq_true (by omega)
   have p3 : ((i : Int) < (l.length : Int)) = True := eq_true (by omega)
   have p4 : ((i : Int) < (ps.length : Int)) = True := eq_true (by omega)
   have p5 : ((i : Int) < (qs.length : Int)) = True := eq_true (by omega)
   replace p0 := eq_true p0
   replace p1 := eq_true p1
   clear hlt hip hiq
   go_wp2_with (first | ((with_reducible refine gate_dst (N := 11) rfl ?_); refine box_event ?hg (N := 11) ?hd (cs := #[.int .i64 0, .int .i64 0]) (t := 33) ?hr ?_; (case hd => rfl); (case hg => rfl); (case hr => first | (go_simp; done) | (go_simp; rfl)); intro ga hg w4 hbox hb; have GEga := Aside0.mk ((by rw [hg]; exact below_size HB.out) : w.heap.size ≤ ga); have n0_ := Aside0.mk (blk_below BKgs.out hb); have n1_ := Aside0.mk (Kd.R_below HO.out hb); have n2_ := Aside0.mk (below_step HB.out hb); clear BKgs HO HB; have BKgs := n0_; have HO := n1_; have HB := n2_; clear n0_ n1_ n2_; have BKga := Aside0.mk hbox; clear hb hbox hg) | ((with_reducible refine gate_ (.store 33 (.tmp 11) (.tmp 18)) rfl ?_); refine store_box (g := ga) (vs := #[.int .i64 x.f0, .int .i64 x.f1]) rfl rfl rfl ?ha ?hx BKga.out ?ht ?hsz ?h1 ?_; (case ha => rfl); (case hx => rfl); (case ht => kernel_rfl); (case hsz => rfl); (case h1 => (apply all_one; rfl)); intro w5 hs_ hf_ hz_ hb_; have n0_ := Aside0.mk ((hf_ _ (blk_ne BKgs.out BKga.out (by decide))).trans BKgs.out); have n1_ := Aside0.mk (Kd.R_mono (Kd.R_step (Kd.R_types HO.out BKga.out (by decide)) (fun k_ ho_ _ => hf_ k_ ho_.2)) (fun _ h_ => h_.1)); have n2_ := Aside0.mk (hb_ _ _ GEga.out HB.out); have n3_ := Aside0.mk (hs_); clear BKgs HO HB BKga; have BKgs := n0_; have HO := n1_; have HB := n2_; have BKga := n3_; clear n0_ n1_ n2_ n3_; clear hs_ hf_ hz_ hb_))
   clear hx0 hx1
   have hT0 := hT0'.out
   obtain ⟨hp0, hp1, hp2, hq0, hq1, hq2⟩ := hPQ'.out
   have n0_ := Aside0.mk (blk_drew BKgs.out); have n1_ := Aside0.mk (blk_drew BKga.out); have n2_ := Aside0.mk (Kd.R_drew HO.out); have n3_ := Aside0.mk (below_drew1 HB.out); clear BKgs BKga HO HB; have BKgs := n0_; have BKga := n1_; have HO := n2_; have HB := n3_; clear n0_ n1_ n2_ n3_
   refine start_ (n := 23) (S := fun w' => w'.cell? ⟨ga, 0, none⟩ = some (.int .i64 x.f0) ∧ w'.cell? ⟨ga, 1, none⟩ = some (.int .i64 x.f1) ∧ w'.cell? ⟨gs, 0, none⟩ = some (.slice (some adT) T.length c) ∧ w'.cell? (adT.add x.f1.toNat) = some (.int .i64 t) ∧ w'.cell? (adp.add (i * 3)) = some (.bool cp.f0) ∧ w'.cell? ⟨(adp.add (i * 3)).block, (adp.add (i * 3)).off + 1, none⟩ = some (.int .i64 cp.f1.f0) ∧ w'.cell? ⟨(adp.add (i * 3)).block, (adp.add (i * 3)).off + 2, none⟩ = some (.string cp.f1.f1) ∧ w'.cell? (adq.add (i * 3)) = some (.bool cq.f0) ∧ w'.cell? ⟨(adq.add (i * 3)).block, (adq.add (i * 3)).off + 1, none⟩ = some (.int .i64 cq.f1.f0) ∧ w'.cell? ⟨(adq.add (i * 3)).block, (adq.add (i * 3)).off + 2, none⟩ = some (.string cq.f1.f1)) (ds := [20, 21]) #[false, false, false, false, false, false, false, false, false, false, false, false, false, false, false, false, false, false, false, false, false, false, false] (by kernel_rfl) rfl rfl ⟨((blk_cell BKga.out 0).trans rfl), ((blk_cell BKga.out 1).trans rfl), ((blk_cell BKgs.out 0).trans rfl), ((HB.out.cell (World.block_lt_of_cell? w _ hT0)).trans hT0), ((HB.out.cell (World.block_lt_of_cell? w _ hp0)).trans hp0), ((HB.out.cell (World.block_lt_of_cell? w _ hp1)).trans hp1), ((HB.out.cell (World.block_lt_of_cell? w _ hp2)).trans hp2), ((HB.out.cell (World.block_lt_of_cell? w _ hq0)).trans hq0), ((HB.out.cell (World.block_lt_of_cell? w _ hq1)).trans hq1), ((HB.out.cell (World.block_lt_of_cell? w _ hq2)).trans hq2)⟩ (fun hHeld => ?_)
   refine pure_ (i := 0) (N := some 19) (v := ?_) (a' := ?_) #[true, false, false, false, false, false, false, false, false, false, false, false, false, false, false, false, false, false, false, false, false, false, false] rfl rfl (by kernel_rfl) (fun _ _ _ h => h) (Or.inl ⟨by rfl, ?_⟩) ?_ ?_
   rotate_left; (intro w'; go_simp; with_reducible rfl); rotate_left; (simp only [Act.put, List.setIfInBounds_toArray, List.set_cons_zero, List.set_cons_succ, i64_w, i32_w]; rfl)
   refine pure_ (i := 2) (N := some 21) (v := ?_) (a' := ?_) #[true, false, true, false, false, false, false, false, false, false, false, false, false, false, false, false, false, false, false, false, false, false, false] rfl rfl (by kernel_rfl) (fun _ _ _ h => h) (Or.inl ⟨by rfl, ?_⟩) ?_ ?_
   rotate_left; (intro w'; go_simp; with_reducible rfl); rotate_left; (simp only [Act.put, List.setIfInBounds_toArray, List.set_cons_zero, List.set_cons_succ, i64_w, i32_w]; rfl)
   refine pure_ (i := 5) (N := some 24) (v := ?_) (a' := ?_) #[true, false, true, false, false, true, false, false, false, false, false, false, false, false, false, false, false, false, false, false, false, false, false] rfl rfl (by kernel_rfl) (fun _ _ _ h => h) (Or.inl ⟨by rfl, ?_⟩) ?_ ?_
   rotate_left; (intro w'; go_simp; with_reducible rfl); rotate_left; (simp only [Act.put, List.setIfInBounds_toArray, List.set_cons_zero, List.set_cons_succ, i64_w, i32_w]; rfl)
   refine pure_ (i := 7) (N := some 26) (v := ?_) (a' := ?_) #[true, false, true, false, false, true, false, true, false, false, false, false, false, false, false, false, false, false, false, false, false, false, false] rfl rfl (by kernel_rfl) (fun _ _ _ h => h) (Or.inl ⟨by rfl, ?_⟩) ?_ ?_
   rotate_left; (intro w'; go_simp; with_reducible rfl); rotate_left; (simp only [Act.put, List.setIfInBounds_toArray, List.set_cons_zero, List.set_cons_succ, i64_w, i32_w]; rfl)
   refine pure_ (i := 11) (N := some 30) (v := ?_) (a' := ?_) #[true, false, true, false, false, true, false, true, false, false, false, true, false, false, false, false, false, false, false, false, false, false, false] rfl rfl (by kernel_rfl) (fun _ _ _ h => h) (Or.inl ⟨by rfl, ?_⟩) ?_ ?_
   rotate_left; (intro w'; go_simp; with_reducible rfl); rotate_left; (simp only [Act.put, List.setIfInBounds_toArray, List.set_cons_zero, List.set_cons_succ, i64_w, i32_w]; rfl)
   refine pure_ (i := 12) (N := some 31) (v := ?_) (a' := ?_) #[true, false, true, false, false, true, false, true, false, false, false, true, true, false, false, false, false, false, false, false, false, false, false] rfl rfl (by kernel_rfl) (fun _ _ _ h => h) (Or.inl ⟨by rfl, ?_⟩) ?_ ?_
   rotate_left; (intro w'; go_simp; with_reducible rfl); rotate_left; (simp only [Act.put, List.setIfInBounds_toArray, List.set_cons_zero, List.set_cons_succ, i64_w, i32_w]; rfl)
   refine pure_ (i := 13) (N := some 32) (v := ?_) (a' := ?_) #[true, false, true, false, false, true, false, true, false, false, false, true, true, true, false, false, false, false, false, false, false, false, false] rfl rfl (by kernel_rfl) (fun _ _ _ h => h) (Or.inl ⟨by rfl, ?_⟩) ?_ ?_
   rotate_left; (intro w'; go_simp; with_reducible rfl); rotate_left; (simp only [Act.put, List.setIfInBounds_toArray, List.set_cons_zero, List.set_cons_succ, i64_w, i32_w]; rfl)
   refine pure_ (i := 15) (N := some 34) (v := ?_) (a' := ?_) #[true, false, true, false, false, true, false, true, false, false, false, true, true, true, false, true, false, false, false, false, false, false, false] rfl rfl (by kernel_rfl) (fun _ _ _ h => h) (Or.inl ⟨by rfl, ?_⟩) ?_ ?_
   rotate_left; (intro w'; go_simp; with_reducible rfl); rotate_left; (simp only [Act.put, List.setIfInBounds_toArray, List.set_cons_zero, List.set_cons_succ, i64_w, i32_w]; rfl)
   refine pure_ (i := 16) (N := some 35) (v := ?_) (a' := ?_) #[true, false, true, false, false, true, false, true, false, false, false, true, true, true, false, true, true, false, false, false, false, false, false] rfl rfl (by kernel_rfl) (fun _ _ _ h => h) (Or.inl ⟨by rfl, ?_⟩) ?_ ?_
   rotate_left; (intro w'; go_simp; with_reducible rfl); rotate_left; (simp only [Act.put, List.setIfInBounds_toArray, List.set_cons_zero, List.set_cons_succ, i64_w, i32_w]; rfl)
   refine pure_ (i := 17) (N := some 36) (v := ?_) (a' := ?_) #[true, false, true, false, false, true, false, true, false, false, false, true, true, true, false, true, true, true, false, false, false, false, false] rfl rfl (by kernel_rfl) (fun _ _ _ h => h) (Or.inl ⟨by rfl, ?_⟩) ?_ ?_
   rotate_left; (intro w'; go_simp; with_reducible rfl); rotate_left; (simp only [Act.put, List.setIfInBounds_toArray, List.set_cons_zero, List.set_cons_succ, i64_w, i32_w]; rfl)
   refine take_ (i := 3) (N := some 22) (v := ?_) (a' := ?_) #[true, false, true, true, false, true, false, true, false, false, false, true, true, true, false, true, true, true, false, false, false, false, false] rfl rfl (by kernel_rfl) (fun _ _ _ h => h) (Or.inl ⟨by rfl, ?_⟩) hHeld ?_ ?_
   rotate_left; (rintro w' ⟨s0, s1, s2, s3, s4, s5, s6, s7, s8, s9⟩; go_simp; with_reducible rfl); rotate_left; (simp only [Act.put, List.setIfInBounds_toArray, List.set_cons_zero, List.set_cons_succ, i64_w, i32_w]; rfl)
   refine take_ (i := 6) (N := some 25) (v := ?_) (a' := ?_) #[true, false, true, true, false, true, true, true, false, false, false, true, true, true, false, true, true, true, false, false, false, false, false] rfl rfl (by kernel_rfl) (fun _ _ _ h => h) (Or.inl ⟨by rfl, ?_⟩) hHeld ?_ ?_
   rotate_left; (rintro w' ⟨s0, s1, s2, s3, s4, s5, s6, s7, s8, s9⟩; go_simp; with_reducible rfl); rotate_left; (simp only [Act.put, List.setIfInBounds_toArray, List.set_cons_zero, List.set_cons_succ, i64_w, i32_w]; rfl)
   refine take_ (i := 8) (N := some 27) (v := ?_) (a' := ?_) #[true, false, true, true, false, true, true, true, true, false, false, true, true, true, false, true, true, true, false, false, false, false, false] rfl rfl (by kernel_rfl) (fun _ _ _ h => h) (Or.inl ⟨by rfl, ?_⟩) hHeld ?_ ?_
   rotate_left; (rintro w' ⟨s0, s1, s2, s3, s4, s5, s6, s7, s8, s9⟩; go_simp; with_reducible rfl); rotate_left; (simp only [Act.put, List.setIfInBounds_toArray, List.set_cons_zero, List.set_cons_succ, i64_w, i32_w]; rfl)
   refine pure_ (i := 9) (N := some 28) (v := ?_) (a' := ?_) #[true, false, true, true, false, true, true, true, true, true, false, true, true, true, false, true, true, true, false, false, false, false, false] rfl rfl (by kernel_rfl) (fun _ _ _ h => h) (Or.inl ⟨by rfl, ?_⟩) ?_ ?_
   rotate_left; (intro w'; go_simp; with_reducible rfl); rotate_left; (simp only [Act.put, List.setIfInBounds_toArray, List.set_cons_zero, List.set_cons_succ, i64_w, i32_w]; rfl)
   refine take_ (i := 10) (N := some 29) (v := ?_) (a' := ?_) #[true, false, true, true, false, true, true, true, true, true, true, true, true, true, false, true, true, true, false, false, false, false, false] rfl rfl (by kernel_rfl) (fun _ _ _ h => h) (Or.inl ⟨by rfl, ?_⟩) hHeld ?_ ?_
   rotate_left; (rintro w' ⟨s0, s1, s2, s3, s4, s5, s6, s7, s8, s9⟩; go_simp; with_reducible rfl); rotate_left; (simp only [Act.put, List.setIfInBounds_toArray, List.set_cons_zero, List.set_cons_succ, i64_w, i32_w]; rfl)
   refine take_ (i := 14) (N := some 33) (v := ?_) (a' := ?_) #[true, false, true, true, false, true, true, true, true, true, true, true, true, true, true, true, true, true, false, false, false, false, false] rfl rfl (by kernel_rfl) (fun _ _ _ h => h) (Or.inl ⟨by rfl, ?_⟩) hHeld ?_ ?_
   rotate_left; (rintro w' ⟨s0, s1, s2, s3, s4, s5, s6, s7, s8, s9⟩; go_simp; with_reducible rfl); rotate_left; (simp only [Act.put, List.setIfInBounds_toArray, List.set_cons_zero, List.set_cons_succ, i64_w, i32_w]; rfl)
   refine take_ (i := 18) (N := some 37) (v := ?_) (a' := ?_) #[true, false, true, true, false, true, true, true, true, true, true, true, true, true, true, true, true, true, true, false, false, false, false] rfl rfl (by kernel_rfl) (fun _ _ _ h => h) (Or.inl ⟨by rfl, ?_⟩) hHeld ?_ ?_
   rotate_left; (rintro w' ⟨s0, s1, s2, s3, s4, s5, s6, s7, s8, s9⟩; go_simp; with_reducible rfl); rotate_left; (simp only [Act.put, List.setIfInBounds_toArray, List.set_cons_zero, List.set_cons_succ, i64_w, i32_w]; rfl)
   refine one_ (i := 1) (N := some 20) #[true, true, true, true, false, true, true, true, true, true, true, true, true, true, true, true, true, true, true, false, false, false, false] rfl rfl (by kernel_rfl) (by decide) (fun K hK => ?_)
   refine goes_ Try.func21 (by kernel_rfl) rfl #[] (by rfl) rfl rfl (by simp only [List.map_toArray, List.map_nil]) ?_
   with_reducible refine (ways_any _).mono ?_
   rintro e w3 ⟨rfl, hb⟩
   refine ⟨_, rfl, ?_⟩
   have n0_ := Aside0.mk (blk_below BKgs.out hb); have n1_ := Aside0.mk (blk_below BKga.out hb); have n2_ := Aside0.mk (Kd.R_below HO.out hb); have n3_ := Aside0.mk (below_step HB.out hb); clear BKgs BKga HO HB; have BKgs := n0_; have BKga := n1_; have HO := n2_; have HB := n3_; clear n0_ n1_ n2_ n3_
   clear hb
   refine hK.out _ _ ⟨((blk_cell BKga.out 0).trans rfl), ((blk_cell BKga.out 1).trans rfl), ((blk_cell BKgs.out 0).trans rfl), ((HB.out.cell (World.block_lt_of_cell? w _ hT0)).trans hT0), ((HB.out.cell (World.block_lt_of_cell? w _ hp0)).trans hp0), ((HB.out.cell (World.block_lt_of_cell? w _ hp1)).trans hp1), ((HB.out.cell (World.block_lt_of_cell? w _ hp2)).trans hp2), ((HB.out.cell (World.block_lt_of_cell? w _ hq0)).trans hq0), ((HB.out.cell (World.block_lt_of_cell? w _ hq1)).trans hq1), ((HB.out.cell (World.block_lt_of_cell? w _ hq2)).trans hq2)⟩ (fun hHeld => ?_)
   clear hK K
   refine norm_ (a' := ?_) ?_ ?_
   rotate_left
   ·show Act.put _ (some 20) _ = _
    simp only [Act.put, List.setIfInBounds_toArray, List.set_cons_zero, List.set_cons_succ, i64_w, i32_w]
    rfl
   refine take_ (i := 4) (N := some 23) (v := ?_) (a' := ?_) #[true, true, true, true, true, true, true, true, true, true, true, true, true, true, true, true, true, true, true, false, false, false, false] rfl rfl (by kernel_rfl) (fun _ _ _ h => h) (Or.inl ⟨by rfl, ?_⟩) hHeld ?_ ?_
   rotate_left; (rintro w' ⟨s0, s1, s2, s3, s4, s5, s6, s7, s8, s9⟩; go_simp; with_reducible rfl); rotate_left; (simp only [Act.put, List.setIfInBounds_toArray, List.set_cons_zero, List.set_cons_succ, i64_w, i32_w]; rfl)
   refine one_ (i := 19) (N := some 38) #[true, true, true, true, true, true, true, true, true, true, true, true, true, true, true, true, true, true, true, true, false, false, false] rfl rfl (by kernel_rfl) (by decide) (fun K hK => ?_)
   refine goes_ Try.func22 (by kernel_rfl) rfl #[.agg #[.bool b0, .int .i64 0, .string (⟨#[]⟩ : ByteArray), .func (.func fo) #[] #[], .func (.func fj) #[] #[]], .int .i64 t, .agg #[.bool cp.f0, .int .i64 cp.f1.f0, .string cp.f1.f1], .agg #[.bool cq.f0, .int .i64 cq.f1.f0, .string cq.f1.f1]] (by rfl) rfl rfl (by simp only [List.map_toArray, List.map_cons, List.map_nil]; rfl) ?_
   with_reducible refine (HW.out.both t cp cq cr _ HF.out).mono ?_
   rintro e w4 ⟨rfl, hb⟩
   refine ⟨_, rfl, ?_⟩
   have n0_ := Aside0.mk (blk_below BKgs.out hb); have n1_ := Aside0.mk (blk_below BKga.out hb); have n2_ := Aside0.mk (Kd.R_below HO.out hb); have n3_ := Aside0.mk (below_step HB.out hb); clear BKgs BKga HO HB; have BKgs := n0_; have BKga := n1_; have HO := n2_; have HB := n3_; clear n0_ n1_ n2_ n3_
   clear hb
   refine hK.out _ _ ⟨((blk_cell BKga.out 0).trans rfl), ((blk_cell BKga.out 1).trans rfl), ((blk_cell BKgs.out 0).trans rfl), ((HB.out.cell (World.block_lt_of_cell? w _ hT0)).trans hT0), ((HB.out.cell (World.block_lt_of_cell? w _ hp0)).trans hp0), ((HB.out.cell (World.block_lt_of_cell? w _ hp1)).trans hp1), ((HB.out.cell (World.block_lt_of_cell? w _ hp2)).trans hp2), ((HB.out.cell (World.block_lt_of_cell? w _ hq0)).trans hq0), ((HB.out.cell (World.block_lt_of_cell? w _ hq1)).trans hq1), ((HB.out.cell (World.block_lt_of_cell? w _ hq2)).trans hq2)⟩ (fun hHeld => ?_)
   clear hK K
   refine norm_ (a' := ?_) ?_ ?_
   rotate_left
   ·show Act.put _ (some 38) _ = _
    simp only [Act.put, List.setIfInBounds_toArray, List.set_cons_zero, List.set_cons_succ, i64_w, i32_w]
    rfl
   refine last_ (i := 20) (N := some 39) #[true, true, true, true, true, true, true, true, true, true, true, true, true, true, true, true, true, true, true, true, true, false, false] rfl rfl (by kernel_rfl) (by decide) (fun K hK => ?_)
   refine value_ (w1 := ?_) (v := ?_) (by rfl) rfl ?_ ?_
   rotate_left 2
   ·go_simp
    constructor
    ·rfl
    ·rfl
   refine hK.out _ _ ?_
   clear hK K
   refine norm_ (a' := ?_) ?_ ?_
   rotate_left
   ·show Act.put _ (some 39) _ = _
    simp only [Act.put, List.setIfInBounds_toArray, List.set_cons_zero, List.set_cons_succ, i64_w, i32_w]
    rfl
   refine last_ (i := 21) (N := some 40) #[true, true, true, true, true, true, true, true, true, true, true, true, true, true, true, true, true, true, true, true, true, true, false] rfl rfl (by kernel_rfl) (by decide) (fun K hK => ?_)
   refine Kd.R_append_step k42 (w0 := w) w.heap.size (by rfl) (.tmp 19) (.tmp 39) 35 42 (.agg #[(.bool false), (.int .i64 0), (.string ⟨#[]⟩)]) 32 rfl Try.underlying35 info42 rfl (by decide) (by omega) u9 out cr [.bool cr.f0, .int .i64 cr.f1.f0, .string cr.f1.f1] (fun _ => True) (fun _ => False) rfl rfl ?aP (fun _ hk => hk.elim) (fun _ _ => trivial) (Kd.R_mono HO.out (fun _ _ => trivial)) HB.out (below_size HB.out) ?aL ?_
   (case aP => exact k42_mkM _ _ _ cr)
   (case aL => have := HLN.out; have := HON.out; have := HI.out; omega)
   intro v9 w9 ho hb hg hat
   have n0_ := Aside0.mk (blk_grown BKgs.out hg (Kd.R_ne HO.out BKgs.out (by decide))); clear BKgs HB HO BKga; have BKgs := n0_; have HB := Aside0.mk hb; have HO := Aside0.mk ho; clear n0_ ho hb hg hat
   refine hK.out _ _ ?_
   clear hK K
   refine norm_ (a' := ?_) ?_ ?_
   rotate_left
   ·show Act.put _ (some 40) _ = _
    simp only [Act.put, List.setIfInBounds_toArray, List.set_cons_zero, List.set_cons_succ, i64_w, i32_w]
    rfl
   refine pure_ (i := 22) (N := some 9) (v := ?_) (a' := ?_) #[true, true, true, true, true, true, true, true, true, true, true, true, true, true, true, true, true, true, true, true, true, true, true] rfl rfl (by kernel_rfl) (fun _ _ _ h => h) (Or.inl ⟨by rfl, ?_⟩) ?_ ?_
   rotate_left; (intro w'; go_simp; with_reducible rfl); rotate_left; (simp only [Act.put, List.setIfInBounds_toArray, List.set_cons_zero, List.set_cons_succ, i64_w, i32_w]; rfl)
   refine done_ (by kernel_rfl) ?_

   (try clear hHeld)
   clear hix hT0 hp0 hp1 hp2 hq0 hq1 hq2 p0 p1 p2 p3 p4 p5
   try go_wp2
   go_roundg m1
   case measure => have := HM.out; omega
   case rel => exact ⟨i + 1, out ++ [cr], by have := HI.out; have := HLN.out; rw [w64 (by omega) (by omega)]; rfl, ⟨by have := HK1.out; have := HM.out; omega⟩, ⟨by rw [List.length_append]; have := HON.out; simp; omega⟩, HA', HO, BKgs, HB⟩
  ·have hlt' : decide ((i : Int) < (l.length : Int)) = false := decide_eq_false (by omega)
   obtain ⟨rest, ha, hr⟩ := HA.out
   rw [List.drop_of_length_le (by omega)] at ha
   obtain rfl := Option.some.inj ha
   rw [List.append_nil] at hr
   have hO := HO.out
   rw [← hr] at hO
   have HO2 := Aside0.mk hO
   clear hO hr ha HA HO
   go_wp2
   go_ret
   exact ⟨_, rfl, HO2.out, HB.out⟩
end Go.Proofs.Ytapaldcdoahfeaa.P

