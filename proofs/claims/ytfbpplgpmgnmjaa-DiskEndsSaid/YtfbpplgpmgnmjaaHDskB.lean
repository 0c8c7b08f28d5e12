/- The disk's small steps: may, table.do. -/
import Derived.Test.YtfbpplgpmgnmjaaHDskA
import Derived.Maps.OwnSet
namespace Go.Proofs.Ytfbpplgpmgnmjaa.P
open Go.RowKit Go.Proofs.YtfbpplgpmgnmjaaW.PrintWords Go.Proofs.YtfbpplgpmgnmjaaW.PrintLast Go.Proofs.YtfbpplgpmgnmjaaW.PrintMore
set_option linter.unusedVariables false
set_option linter.unusedSimpArgs false
def may (a : ByteArray) : Bool := decide (0 < a.size) && decide (a.size ≤ 20)
def do1 (es : List NE) (c : DC) : List NE := if c.2.1 = ⟨#[]⟩ then tdel es c.1 else tput (tdel es c.1) c.2.1 c.2.2
section
variable {ops : Array Oper} {rest : List Oper} {o : Oper} {a : Act} {Q : Exit → Act → World → Prop} (w : World)
theorem wpList_del_N (hg : o.guard = none) (m x : Operand) (hop : o.op = Op.call { callee := Callee.builtin Builtin.delete, args := #[m, x], argTypes := #[67, 73] })
    (B : Nat) (es : List NE) (key : ByteArray) (hm : a.eval m = .map (some B)) (hn : NMap w B es) (hx : a.eval x = kN key)
    (hK : ∀ w' ob, w' = w.putObj B ob → NMap w' B (tdel es key) → wpList Try.prog ops Q rest (a.put o.dst (.tuple #[])) w') :
    wpList Try.prog ops Q (o :: rest) a w := by
  refine wpList_plain hg fun K' hK' => ?_
  obtain ⟨w', hrun, r1, ob, r2⟩ := hn.del key o.type
  unfold Oper.wp
  simp [execOp, hop, resolve, invoke, builtin, hm, hx, hrun, Result.andThen]
  exact hK' _ _ (hK w' ob r2 r1)
theorem wpList_put_N (hg : o.guard = none) (m x v : Operand) (hop : o.op = Op.mapUpdate 67 m x v)
    (B : Nat) (es : List NE) (key : ByteArray) (val : Int) (hm : a.eval m = .map (some B)) (hn : NMap w B es) (hx : a.eval x = kN key) (hv : a.eval v = .int .i64 val)
    (hK : ∀ w' ob, w' = w.putObj B ob → NMap w' B (tput es key val) → wpList Try.prog ops Q rest (a.put o.dst undef) w') :
    wpList Try.prog ops Q (o :: rest) a w := by
  refine wpList_plain hg fun K' hK' => ?_
  obtain ⟨w', hrun, r1, ob, r2⟩ := hn.put key val
  unfold Oper.wp
  simp [execOp, hop, hm, hx, hv, hrun, Result.andThen]
  exact hK' _ _ (hK w' ob r2 r1)
end
set_option maxHeartbeats 4000000 in
set_option maxRecDepth 100000 in
theorem may_any (a : ByteArray) (w : World) : Calls Try.prog 39 #[.agg #[.string a]] w fun e w' => e = .returned (.bool (may a)) ∧ Below w.heap.size w w' := by
  have hm : may a = (decide (0 < a.size) && decide (a.size ≤ 20)) := rfl
  generalize may a = r at hm ⊢
  go_enter Try.func39, Try.ntmps39
  go_wp2
  all_goals go_ret
  · exact ⟨by rw [hm]; simp [*] <;> omega, below_alloc (Below.refl _ _) _⟩
  · exact ⟨by rw [hm]; simp [*] <;> omega, below_alloc (Below.refl _ _) _⟩
set_option maxHeartbeats 4000000 in
set_option maxRecDepth 100000 in
theorem do_any (es : List NE) (c : DC) (m : Nat) (w : World) (hn : NMap w m es) :
    Calls Try.prog 50 #[.map (some m), .agg #[.string c.1, .string c.2.1, .int .i64 c.2.2]] w fun e w' => e = .returned (.tuple #[]) ∧ Aside0 (NMap w' m (do1 es c) ∧ Kept w w' (fun i => i = m)) := by
  obtain ⟨fr, tn, at_⟩ := c
  have hE : ∀ a b w, (Op.equalIn 10000 73 (.agg #[.string a]) (.agg #[.string b])).run Try.prog w = .ok (a == b) w := fun a b w => neq w a b
  have hG : Try.prog.eqGuardType Try.prog.depth 73 = false := by kernel_rfl
  have hlt := hn.lt
  have HN := Aside0.mk hn
  have hd : do1 es (fr, tn, at_) = if tn = ⟨#[]⟩ then tdel es fr else tput (tdel es fr) tn at_ := rfl
  have HD := Aside0.mk hd
  have hb : ∀ a b : ByteArray, (a == b) = decide (a = b) := beqD
  clear hn hd
  go_enter Try.func50, Try.ntmps50
  go_wp2_with (first | (at_delete; refine wpList_del_N _ rfl _ _ rfl m es fr rfl (HN.out.below (below_alloc (Below.refl _ _) _)) rfl ?_; intro w1 ob hw1 hn1
                        have hbx := blk_new w (.cells #[.string fr, .string tn, .int .i64 at_] 81)
                        have hb1 : w1.heap[w.heap.size]? = some (.cells #[.string fr, .string tn, .int .i64 at_] 81 (0, 0)) := by rw [hw1]; exact (World.putObj_heap_other (by omega)).trans hbx
                        have hc1 : w1.cell? ⟨w.heap.size, 1, none⟩ = some (.string tn) := (blk_cell hb1 1).trans rfl
                        have hc2 : w1.cell? ⟨w.heap.size, 2, none⟩ = some (.int .i64 at_) := (blk_cell hb1 2).trans rfl
                        have HN1 := Aside0.mk hn1
                        have HK1 := Aside0.mk (show Kept w w1 (fun i => i = m) by rw [hw1]; exact ((Kept.refl w _).alloc _).then_ (Kept.put1 _ _ _) (fun k hk => .inl hk))
                        clear hw1 hn1 hbx hb1)
                      | (at_mapUpdate; refine wpList_put_N _ rfl _ _ _ rfl m (tdel es fr) tn at_ rfl HN1.out rfl rfl ?_; intro w2 ob2 hw2 hn2
                         have HN2 := Aside0.mk hn2
                         have HK2 := Aside0.mk (show Kept w w2 (fun i => i = m) by rw [hw2]; exact HK1.out.then_ (Kept.put1 _ _ _) (fun k hk => .inl hk))
                         clear hw2 hn2))
  · refine bodyPost_end (results_none rfl _ _ _) rfl ?_
    exact ⟨rfl, ⟨by rw [HD.out, if_neg (by simpa using ‹(!decide (tn = _)) = true›)]; exact HN2.out, HK2.out⟩⟩
  · refine bodyPost_end (results_none rfl _ _ _) rfl ?_
    exact ⟨rfl, ⟨by rw [HD.out, if_pos (by simpa using ‹(!decide (tn = _)) = false›)]; exact HN1.out, HK1.out⟩⟩
end Go.Proofs.Ytfbpplgpmgnmjaa.P
