/- The contracts of a box of events: Take; and of the nil box and the zero one. No conditions. -/
import Derived.Test.YtpdckjfkkiameaaPrChan
namespace Go.Proofs.Ytpdckjfkkiameaa
open Go.RowKit Go.Conc
attribute [local go_sem] bmax2_int bmin2_int bmax_two bmin_two blk_alloc blk_setRow blk_setCell blk_drew blk_drewN alloc_setRow cell_setRow_ne drew_setRow drewN_setRow fold_z0 vv_size vv_get vv_set
attribute [local go_sem ↓] exec_load_vv exec_store_vv exec_index_vv exec_eql_vv exec_neq_vv
attribute [local go_sem] loadVV_at storeVV_at indexVV_at eqVV_eql eqVV_neq ne_r2 ne_l2 ne_r3 ne_l3 ne_r4 ne_l4 ne_r5 ne_l5 ne_r6 ne_l6 ne_r7 ne_l7 ne_r8 ne_l8
set_option linter.unusedVariables false
set_option linter.unusedSimpArgs false
attribute [local go_sem] rowN_drew fold_zE evA_size evA_get0 evA_get1 evA_get2 evA_get19 evA_get20 evA_get21 evA_get22 evA_get23 evA_get24 evA_get25 loadEv_at storeEv_at rowN_ev_new
attribute [local go_sem ↓] exec_load_ev exec_store_ev

theorem fold_zE2 : #[Value.int .i64 0, Value.int .i64 0, Value.int .i64 0, Value.int .i64 0, Value.int .i64 0, Value.int .i64 0, Value.int .i64 0, Value.int .i64 0, Value.int .i64 0, Value.int .i64 0, Value.int .i64 0, Value.int .i64 0, Value.int .i64 0, Value.int .i64 0, Value.int .i64 0, Value.int .i64 0, Value.int .i64 0, Value.int .i64 0, Value.int .i64 0, Value.int .i64 0, .string ⟨#[]⟩, .string ⟨#[]⟩, .string ⟨#[]⟩, .int .i64 0, .int .i64 0, .int .i64 0] = evA zE := rfl
attribute [local go_sem] fold_zE2
theorem setChan_alloc_size (w : World) (c cap : Nat) (buf : Array Value) (s r : Nat) : (w.setChan c cap buf false s r false).heap.size = w.heap.size := by simp [World.setChan]
theorem blk_setChan_ne (w : World) (c k cap : Nat) (buf : Array Value) (s r : Nat) (h : ¬ k = c) : blk (w.setChan c cap buf false s r false) k = blk w k := by
  unfold blk
  simp only [World.setChan]
  rw [Array.getElem?_setIfInBounds_ne (fun e => h e.symm)]

set_option maxRecDepth 100000 in
theorem btake_ev (g c cap : Nat) (x : Ev) (l : List Value) (w : World) (h : BXT 81 w g c cap ((.agg (evA x)) :: l).toArray) :
    Calls Try.prog 34 #[.pointer (some ⟨g, 0, none⟩)] w fun e w' => e = .returned (.tuple #[.agg (evA x), .bool true]) ∧ Fr (fun k => k = c) w w' ∧ BXT 81 w' g c cap l.toArray := by
  have hc := h.cell
  have hgl := blk_lt h.head
  have hcl : c < w.heap.size := by obtain ⟨s, r, hh⟩ := h.chan; exact blk_lt hh
  have hgw : g ≠ w.heap.size := by omega
  have hgw1 : g ≠ w.heap.size + 1 := by omega
  have h1 := (h.keep ((Below.refl w.heap.size w).alloc (Nat.le_refl _) (Obj.cells (evA zE) 39)))
  have h2 := (h1.keep ((Below.refl _ _).alloc (Nat.le_refl _) (Obj.cells (evA zE) 39)))
  have f1 : Below w.heap.size w ((w.alloc (Obj.cells (evA zE) 39)).alloc (Obj.cells (evA zE) 39)) := ((Below.refl w.heap.size w).alloc (Nat.le_refl _) _).alloc (by simp) _
  have b2 := gblk_alloc (Obj.cells (evA zE) 39) (gblk_new w (Obj.cells (evA zE) 39))
  have s2 : ((w.alloc (Obj.cells (evA zE) 39)).alloc (Obj.cells (evA zE) 39)).heap.size = w.heap.size + 2 := by simp
  refine calls_of_loneTo fun cs => ?_
  have e : Frame.enter Try.prog 34 #[.pointer (some ⟨g, 0, none⟩)] .normal = (base 34).at ⟨#[.pointer (some ⟨g, 0, none⟩), undef, undef, undef, undef, undef, undef, undef, undef, undef, undef, undef, undef, undef, undef, undef, undef, undef, undef], []⟩ [.code (Try.f34.body.getD .skip)] := by
    simp [Frame.enter, Frame.at, Try.func34, base, Try.f34]
  rw [e]
  clear e h h1
  refine LoneTo.goes (n := 60) ?_
  simp only [Try.f34, Option.getD_some]
  repeat (first | s_c stepG_seq | s_c stepG_region_end | s_c stepG_skip | s_c stepG_block | s_reg | s_cond true | s_cond false | (s_in; refine goes_oper_k rfl rfl (by decide) (fun K hK => ?_); (try simp only [List.getElem_toArray, List.getElem_cons_succ, List.getElem_cons_zero]); go_simp; refine hK _ _ ⟨trivial, ?_⟩; clear hK K))
  generalize (w.alloc (Obj.cells (evA zE) 39)).alloc (Obj.cells (evA zE) 39) = w2 at *
  s_stop
  obtain ⟨s, r, hch⟩ := h2.chan
  refine LoneTo.step (step_lone_select_recv_buf (c := c) (cap := cap) (buf := ((Value.agg (evA x)) :: l).toArray) (closed := false) (z := .agg (evA zE)) (s := s) (r := r) (tm := false) (stepG_comm (cases := #[rcase c (.agg (evA zE))]) (blocking := false) (shape := .select) (w' := w2) rfl rfl (by decide) (by simp [go_sem, execOp, rcase, Act.eval] <;> rfl)) hch (by simp)) ?_
  rw [Frame.finish_at]
  walk_nrm
  have h3 := h2.put (buf' := l.toArray) s (r + 1)
  have f3 : Fr (fun k => k = c) w (w2.setChan c cap l.toArray false s (r + 1) false) := (Fr.of_below f1).trans (fr_setChan w2 c cap _ false _ _ _)
  have b3 : blk (w2.setChan c cap l.toArray false s (r + 1) false) w.heap.size = some (.cells (evA zE) 39) := by rw [blk_setChan_ne _ _ _ _ _ _ _ (by omega)]; exact b2
  have s3 : (w2.setChan c cap l.toArray false s (r + 1) false).heap.size = w.heap.size + 2 := by rw [setChan_alloc_size, s2]
  generalize hw3 : w2.setChan c cap l.toArray false s (r + 1) false = w3 at *
  refine LoneTo.goes (n := 60) ?_
  repeat (first | s_c stepG_seq | s_c stepG_region_end | s_c stepG_skip | s_c stepG_block | s_reg | s_cond true | s_cond false | (s_in; refine goes_oper_k rfl rfl (by decide) (fun K hK => ?_); (try simp only [List.getElem_toArray, List.getElem_cons_succ, List.getElem_cons_zero]); go_simp; refine hK _ _ ⟨trivial, ?_⟩; clear hK K) | s_c stepG_ret')
  s_stop
  have h4 := h3.keep ((Below.refl w3.heap.size w3).alloc (Nat.le_refl _) (Obj.cells (evA x) 39))
  have b4 := gblk_alloc (Obj.cells (evA x) 39) b3
  have f4 : Fr (fun k => k = c) w (w3.alloc (Obj.cells (evA x) 39)) := f3.trans (Fr.of_below ((Below.refl w3.heap.size w3).alloc (Nat.le_refl _) _))
  generalize w3.alloc (Obj.cells (evA x) 39) = w4 at *
  have b5 : blk (w4.setRow w.heap.size (evA x)) w.heap.size = some (.cells (evA x) 39) := by rw [blk_setRow, if_pos rfl, b4]
  have f5 : Fr (fun k => k = c) w (w4.setRow w.heap.size (evA x)) :=
    ((f4.mono (Y := fun k => k = c ∨ k = w.heap.size) (fun k _ hk => .inl hk)).trans (Fr.setRow w4 w.heap.size (evA x) (.inr rfl))).mono (fun k hk hx => by rcases hx with hx | hx; exact hx; omega)
  have h5 : BXT 81 (w4.setRow w.heap.size (evA x)) g c cap l.toArray := h4.fr (Fr.setRow (X := fun k => k = w.heap.size) w4 w.heap.size (evA x) rfl) (by omega) (by omega)
  refine LoneTo.done ⟨.returned (.tuple #[.agg (evA x), .bool true]), _, rfl, ⟨rfl, f5, h5⟩, rfl, rfl, rfl, rfl, _, Try.func34, ?_⟩
  exact results_cell_tmp Try.results34 _ _ w.heap.size _ rfl (run_loadVar_rowN (rowN_blk b5 rfl) Try.underlying39 rfl infoEv)

/-- a zero box. -/
def BX0 (w : World) (g : Nat) : Prop := blk w g = some (.cells #[.chan none] 81 (0, 0))
theorem BX0.cell {w : World} {g : Nat} (h : BX0 w g) : w.cell? ⟨g, 0, none⟩ = some (.chan none) := cell_of_row w g 0 _ _ _ h
set_option maxRecDepth 100000 in
theorem btake_ev_none (g c cap : Nat) (w : World) (h : BXT 81 w g c cap #[]) :
    Calls Try.prog 34 #[.pointer (some ⟨g, 0, none⟩)] w fun e w' => e = .returned (.tuple #[.agg (evA zE), .bool false]) ∧ Below w.heap.size w w' := by
  have hc := h.cell
  have hgl : g < w.heap.size := blk_lt h.head
  have hgw : g ≠ w.heap.size := by omega
  have hgw1 : g ≠ w.heap.size + 1 := by omega
  have h2 := (h.keep ((Below.refl w.heap.size w).alloc (Nat.le_refl _) (Obj.cells (evA zE) 39))).keep ((Below.refl _ _).alloc (Nat.le_refl _) (Obj.cells (evA zE) 39))
  have f1 : Below w.heap.size w ((w.alloc (Obj.cells (evA zE) 39)).alloc (Obj.cells (evA zE) 39)) := ((Below.refl w.heap.size w).alloc (Nat.le_refl _) _).alloc (by simp) _
  have b2 := gblk_alloc (Obj.cells (evA zE) 39) (gblk_new w (Obj.cells (evA zE) 39))
  have b1 := gblk_new (w.alloc (Obj.cells (evA zE) 39)) (Obj.cells (evA zE) 39)
  rw [show (w.alloc (Obj.cells (evA zE) 39)).heap.size = w.heap.size + 1 by simp] at b1
  have r1 := rowN_blk (n := 26) b1 rfl
  refine calls_of_loneTo fun cs => ?_
  have e : Frame.enter Try.prog 34 #[.pointer (some ⟨g, 0, none⟩)] .normal = (base 34).at ⟨#[.pointer (some ⟨g, 0, none⟩), undef, undef, undef, undef, undef, undef, undef, undef, undef, undef, undef, undef, undef, undef, undef, undef, undef, undef], []⟩ [.code (Try.f34.body.getD .skip)] := by
    simp [Frame.enter, Frame.at, Try.func34, base, Try.f34]
  rw [e]
  clear e
  refine LoneTo.goes (n := 60) ?_
  simp only [Try.f34, Option.getD_some]
  repeat (first | s_c stepG_seq | s_c stepG_region_end | s_c stepG_skip | s_c stepG_block | s_reg | s_cond true | s_cond false | (s_in; refine goes_oper_k rfl rfl (by decide) (fun K hK => ?_); (try simp only [List.getElem_toArray, List.getElem_cons_succ, List.getElem_cons_zero]); go_simp; refine hK _ _ ⟨trivial, ?_⟩; clear hK K))
  generalize (w.alloc (Obj.cells (evA zE) 39)).alloc (Obj.cells (evA zE) 39) = w2 at *
  s_stop
  obtain ⟨s, r, hch⟩ := h2.chan
  refine LoneTo.step (step_lone_select_default (c := c) (cap := cap) (s := s) (r := r) (tm := false) (z := .agg (evA zE)) (stepG_comm (cases := #[rcase c (.agg (evA zE))]) (blocking := false) (shape := .select) (w' := w2) rfl rfl (by decide) (by simp [go_sem, execOp, rcase, Act.eval] <;> rfl)) hch) ?_
  rw [Frame.finish_at]
  walk_nrm
  refine LoneTo.goes (n := 60) ?_
  repeat (first | s_c stepG_seq | s_c stepG_region_end | s_c stepG_skip | s_c stepG_block | s_reg | s_cond true | s_cond false | (s_in; refine goes_oper_k rfl rfl (by decide) (fun K hK => ?_); (try simp only [List.getElem_toArray, List.getElem_cons_succ, List.getElem_cons_zero]); go_simp; refine hK _ _ ⟨trivial, ?_⟩; clear hK K) | s_c stepG_ret')
  s_stop
  have b5 : blk (w2.setRow w.heap.size (evA zE)) w.heap.size = some (.cells (evA zE) 39) := by rw [blk_setRow, if_pos rfl, b2]
  have f5 : Below w.heap.size w (w2.setRow w.heap.size (evA zE)) := f1.trans ⟨rfl, rfl, rfl, by simp, fun j hj => setRow_other _ _ _ _ (by omega)⟩
  refine LoneTo.done ⟨.returned (.tuple #[.agg (evA zE), .bool false]), _, rfl, ⟨rfl, f5⟩, rfl, rfl, rfl, rfl, _, Try.func34, ?_⟩
  exact results_cell_tmp Try.results34 _ _ w.heap.size _ rfl (run_loadVar_rowN (rowN_blk b5 rfl) Try.underlying39 rfl infoEv)
set_option maxRecDepth 100000 in
theorem btake_ev_zero (g : Nat) (w : World) (h : BX0 w g) :
    Calls Try.prog 34 #[.pointer (some ⟨g, 0, none⟩)] w fun e w' => e = .returned (.tuple #[.agg (evA zE), .bool false]) ∧ Below w.heap.size w w' := by
  have hc := h.cell
  have hgl : g < w.heap.size := blk_lt h
  have hgw : g ≠ w.heap.size := by omega
  have hgw1 : g ≠ w.heap.size + 1 := by omega
  have f1 : Below w.heap.size w ((w.alloc (Obj.cells (evA zE) 39)).alloc (Obj.cells (evA zE) 39)) := ((Below.refl w.heap.size w).alloc (Nat.le_refl _) _).alloc (by simp) _
  have b2 := gblk_alloc (Obj.cells (evA zE) 39) (gblk_new w (Obj.cells (evA zE) 39))
  have b1 := gblk_new (w.alloc (Obj.cells (evA zE) 39)) (Obj.cells (evA zE) 39)
  rw [show (w.alloc (Obj.cells (evA zE) 39)).heap.size = w.heap.size + 1 by simp] at b1
  have r1 := rowN_blk (n := 26) b1 rfl
  refine calls_of_loneTo fun cs => ?_
  have e : Frame.enter Try.prog 34 #[.pointer (some ⟨g, 0, none⟩)] .normal = (base 34).at ⟨#[.pointer (some ⟨g, 0, none⟩), undef, undef, undef, undef, undef, undef, undef, undef, undef, undef, undef, undef, undef, undef, undef, undef, undef, undef], []⟩ [.code (Try.f34.body.getD .skip)] := by
    simp [Frame.enter, Frame.at, Try.func34, base, Try.f34]
  rw [e]
  clear e
  refine LoneTo.goes (n := 60) ?_
  simp only [Try.f34, Option.getD_some]
  repeat (first | s_c stepG_seq | s_c stepG_region_end | s_c stepG_skip | s_c stepG_block | s_reg | s_cond true | s_cond false | (s_in; refine goes_oper_k rfl rfl (by decide) (fun K hK => ?_); (try simp only [List.getElem_toArray, List.getElem_cons_succ, List.getElem_cons_zero]); go_simp; refine hK _ _ ⟨trivial, ?_⟩; clear hK K))
  generalize (w.alloc (Obj.cells (evA zE) 39)).alloc (Obj.cells (evA zE) 39) = w2 at *
  s_stop
  refine LoneTo.step (step_lone_select_recv_nil (z := .agg (evA zE)) (stepG_comm (cases := #[rcaseNil (.agg (evA zE))]) (blocking := false) (shape := .select) (w' := w2) rfl rfl (by decide) (by simp [go_sem, execOp, rcaseNil, Act.eval] <;> rfl))) ?_
  rw [Frame.finish_at]
  walk_nrm
  refine LoneTo.goes (n := 60) ?_
  repeat (first | s_c stepG_seq | s_c stepG_region_end | s_c stepG_skip | s_c stepG_block | s_reg | s_cond true | s_cond false | (s_in; refine goes_oper_k rfl rfl (by decide) (fun K hK => ?_); (try simp only [List.getElem_toArray, List.getElem_cons_succ, List.getElem_cons_zero]); go_simp; refine hK _ _ ⟨trivial, ?_⟩; clear hK K) | s_c stepG_ret')
  s_stop
  have b5 : blk (w2.setRow w.heap.size (evA zE)) w.heap.size = some (.cells (evA zE) 39) := by rw [blk_setRow, if_pos rfl, b2]
  have f5 : Below w.heap.size w (w2.setRow w.heap.size (evA zE)) := f1.trans ⟨rfl, rfl, rfl, by simp, fun j hj => setRow_other _ _ _ _ (by omega)⟩
  refine LoneTo.done ⟨.returned (.tuple #[.agg (evA zE), .bool false]), _, rfl, ⟨rfl, f5⟩, rfl, rfl, rfl, rfl, _, Try.func34, ?_⟩
  exact results_cell_tmp Try.results34 _ _ w.heap.size _ rfl (run_loadVar_rowN (rowN_blk b5 rfl) Try.underlying39 rfl infoEv)
set_option maxRecDepth 100000 in
theorem btake_ev_nil (w : World) :
    Calls Try.prog 34 #[.pointer none] w fun e w' => e = .returned (.tuple #[.agg (evA zE), .bool false]) ∧ Below w.heap.size w w' := by
  have f1 : Below w.heap.size w ((w.alloc (Obj.cells (evA zE) 39)).alloc (Obj.cells (evA zE) 39)) := ((Below.refl w.heap.size w).alloc (Nat.le_refl _) _).alloc (by simp) _
  have b2 := gblk_alloc (Obj.cells (evA zE) 39) (gblk_new w (Obj.cells (evA zE) 39))
  have b1 := gblk_new (w.alloc (Obj.cells (evA zE) 39)) (Obj.cells (evA zE) 39)
  rw [show (w.alloc (Obj.cells (evA zE) 39)).heap.size = w.heap.size + 1 by simp] at b1
  have r1 := rowN_blk (n := 26) b1 rfl
  refine calls_of_loneTo fun cs => ?_
  have e : Frame.enter Try.prog 34 #[.pointer none] .normal = (base 34).at ⟨#[.pointer none, undef, undef, undef, undef, undef, undef, undef, undef, undef, undef, undef, undef, undef, undef, undef, undef, undef, undef], []⟩ [.code (Try.f34.body.getD .skip)] := by
    simp [Frame.enter, Frame.at, Try.func34, base, Try.f34]
  rw [e]
  clear e
  refine LoneTo.goes (n := 60) ?_
  simp only [Try.f34, Option.getD_some]
  repeat (first | s_c stepG_seq | s_c stepG_region_end | s_c stepG_skip | s_c stepG_block | s_reg | s_cond true | s_cond false | (s_in; refine goes_oper_k rfl rfl (by decide) (fun K hK => ?_); (try simp only [List.getElem_toArray, List.getElem_cons_succ, List.getElem_cons_zero]); go_simp; refine hK _ _ ⟨trivial, ?_⟩; clear hK K) | s_c stepG_ret')
  generalize (w.alloc (Obj.cells (evA zE) 39)).alloc (Obj.cells (evA zE) 39) = w2 at *
  s_stop
  have b5 : blk (w2.setRow w.heap.size (evA zE)) w.heap.size = some (.cells (evA zE) 39) := by rw [blk_setRow, if_pos rfl, b2]
  have f5 : Below w.heap.size w (w2.setRow w.heap.size (evA zE)) := f1.trans ⟨rfl, rfl, rfl, by simp, fun j hj => setRow_other _ _ _ _ (by omega)⟩
  refine LoneTo.done ⟨.returned (.tuple #[.agg (evA zE), .bool false]), _, rfl, ⟨rfl, f5⟩, rfl, rfl, rfl, rfl, _, Try.func34, ?_⟩
  exact results_cell_tmp Try.results34 _ _ w.heap.size _ rfl (run_loadVar_rowN (rowN_blk b5 rfl) Try.underlying39 rfl infoEv)
set_option maxRecDepth 100000 in
theorem bput_ev_zero (g : Nat) (x : Ev) (w : World) (h : BX0 w g) :
    Calls Try.prog 33 #[.pointer (some ⟨g, 0, none⟩), .agg (evA x)] w fun e w' => e = .returned (.bool false) ∧ Below w.heap.size w w' := by
  have hc := h.cell
  have hgl : g < w.heap.size := blk_lt h
  have hgw : g ≠ w.heap.size := by omega
  refine calls_of_loneTo fun cs => ?_
  have e : Frame.enter Try.prog 33 #[.pointer (some ⟨g, 0, none⟩), .agg (evA x)] .normal = (base 33).at ⟨#[.pointer (some ⟨g, 0, none⟩), .agg (evA x), undef, undef, undef, undef, undef, undef, undef, undef, undef, undef, undef, undef, undef], []⟩ [.code (Try.f33.body.getD .skip)] := by
    simp [Frame.enter, Frame.at, Try.func33, base, Try.f33]
  rw [e]
  clear e
  refine LoneTo.goes (n := 60) ?_
  simp only [Try.f33, Option.getD_some]
  repeat (first | s_c stepG_seq | s_c stepG_region_end | s_c stepG_skip | s_c stepG_block | s_reg | s_cond true | s_cond false | (s_in; refine goes_oper_k rfl rfl (by decide) (fun K hK => ?_); (try simp only [List.getElem_toArray, List.getElem_cons_succ, List.getElem_cons_zero]); go_simp; refine hK _ _ ⟨trivial, ?_⟩; clear hK K))
  s_stop
  refine LoneTo.step (step_lone_select_send_nil (v := .agg (evA x)) (z' := .agg (evA zE)) (stepG_comm (cases := #[scaseNil (.agg (evA x)) (.agg (evA zE))]) (blocking := false) (shape := .select) (w' := (w.alloc (.cells (evA x) 39))) rfl rfl (by decide) (by simp [go_sem, execOp, scaseNil, Act.eval] <;> rfl))) ?_
  rw [Frame.finish_at]
  walk_nrm
  refine LoneTo.goes (n := 60) ?_
  repeat (first | s_c stepG_seq | s_c stepG_region_end | s_c stepG_skip | s_c stepG_block | s_reg | s_cond true | s_cond false | (s_in; refine goes_oper_k rfl rfl (by decide) (fun K hK => ?_); (try simp only [List.getElem_toArray, List.getElem_cons_succ, List.getElem_cons_zero]); go_simp; refine hK _ _ ⟨trivial, ?_⟩; clear hK K) | s_c stepG_ret')
  s_stop
  refine LoneTo.done ⟨.returned (.bool false), _, rfl, ⟨rfl, (Below.refl _ _).alloc (Nat.le_refl _) _⟩, rfl, rfl, rfl, rfl, _, Try.func33, by simp [results, Try.f33, Frame.at] <;> rfl⟩
set_option maxRecDepth 100000 in
theorem bput_ev_nil (x : Ev) (w : World) :
    Calls Try.prog 33 #[.pointer none, .agg (evA x)] w fun e w' => e = .returned (.bool false) ∧ Below w.heap.size w w' := by
  go_enter Try.func33, Try.ntmps33
  go_wp2
  go_ret
  exact ⟨rfl, (Below.refl _ _).alloc (Nat.le_refl _) _⟩
theorem blen_ev_zero (g : Nat) (w : World) (h : BX0 w g) :
    Calls Try.prog 35 #[.pointer (some ⟨g, 0, none⟩)] w fun e w' => e = .returned (.int .i64 0) ∧ w' = w := by
  have hc := h.cell
  have hl : ∀ ty, (Builtin.len_ #[79] ty #[.chan none]).run Try.prog w = .ok (goInt 0) w := fun ty => by simp [Builtin.len_, run_underlying Try.underlying79]
  go_enter Try.func35, Try.ntmps35
  go_wp2
  go_ret
  exact ⟨rfl, rfl⟩
theorem blen_ev_nil (w : World) :
    Calls Try.prog 35 #[.pointer none] w fun e w' => e = .returned (.int .i64 0) ∧ w' = w := by
  skip
  go_enter Try.func35, Try.ntmps35
  go_wp2
  go_ret
  exact ⟨rfl, rfl⟩

end Go.Proofs.Ytpdckjfkkiameaa
