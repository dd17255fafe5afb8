/- Boxes: a block that holds a channel with room; the contracts of NewBox, Put, Take and Len. No conditions. -/
import Derived.Test.YtpdckjfkkiameaaPrBase
import Derived.Conc.LoneCalls
import Derived.Conc.LoneSelect
import Derived.Conc.LoneSelectN
import Derived.Conc.SmallLaws
namespace Go.Proofs.Ytpdckjfkkiameaa
open Go.RowKit Go.Conc
attribute [local go_sem] bmax2_int bmin2_int bmax_two bmin_two blk_alloc blk_setRow blk_setCell blk_drew blk_drewN alloc_setRow cell_setRow_ne drew_setRow drewN_setRow fold_z0 vv_size vv_get vv_set
attribute [local go_sem ↓] exec_load_vv exec_store_vv exec_index_vv exec_eql_vv exec_neq_vv
attribute [local go_sem] loadVV_at storeVV_at indexVV_at eqVV_eql eqVV_neq ne_r2 ne_l2 ne_r3 ne_l3 ne_r4 ne_l4 ne_r5 ne_l5 ne_r6 ne_l6 ne_r7 ne_l7 ne_r8 ne_l8
set_option linter.unusedVariables false
set_option linter.unusedSimpArgs false
attribute [local go_sem] rowN_drew fold_zE evA_size evA_get0 evA_get1 evA_get2 evA_get19 evA_get20 evA_get21 evA_get22 evA_get23 evA_get24 evA_get25 loadEv_at storeEv_at rowN_ev_new
attribute [local go_sem ↓] exec_load_ev exec_store_ev

/-- block g is a box of type t whose things lie in channel c. -/
structure BXT (t : TypeId) (w : World) (g c cap : Nat) (buf : Array Value) : Prop where
  head : blk w g = some (.cells #[.chan (some c)] t (0, 0))
  chan : ∃ s r, blk w c = some (.chan cap buf false s r false)
theorem BXT.cell {t : TypeId} {w : World} {g c cap : Nat} {buf : Array Value} (h : BXT t w g c cap buf) : w.cell? ⟨g, 0, none⟩ = some (.chan (some c)) := cell_of_row w g 0 _ _ _ h.head
theorem BXT.ne {t : TypeId} {w : World} {g c cap : Nat} {buf : Array Value} (h : BXT t w g c cap buf) : g ≠ c := fun e => by
  obtain ⟨s, r, hc⟩ := h.chan
  subst e
  rw [h.head] at hc
  cases hc
theorem BXT.fr {X : Nat → Prop} {t : TypeId} {w w' : World} {g c cap : Nat} {buf : Array Value} (h : BXT t w g c cap buf) (hf : Fr X w w') (h1 : ¬ X g) (h2 : ¬ X c) : BXT t w' g c cap buf := by
  obtain ⟨s, r, hc⟩ := h.chan
  exact ⟨hf.blk h1 h.head, s, r, hf.blk h2 hc⟩
theorem BXT.keep {t : TypeId} {w w' : World} {g c cap : Nat} {buf : Array Value} (h : BXT t w g c cap buf) (hb : Below w.heap.size w w') : BXT t w' g c cap buf := h.fr (Fr.of_below (X := fun _ => False) hb) id id
theorem fr_setChan (w : World) (c cap : Nat) (buf : Array Value) (cl : Bool) (s r : Nat) (tm : Bool) : Fr (fun k => k = c) w (w.setChan c cap buf cl s r tm) :=
  ⟨rfl, rfl, rfl, by simp [World.setChan], fun k hk hn => by simp only [World.setChan]; rw [Array.getElem?_setIfInBounds_ne (fun e => hn e.symm)]⟩
theorem BXT.put {t : TypeId} {w : World} {g c cap : Nat} {buf buf' : Array Value} (h : BXT t w g c cap buf) (s r : Nat) : BXT t (w.setChan c cap buf' false s r false) g c cap buf' := by
  obtain ⟨s', r', hc⟩ := h.chan
  exact ⟨(fr_setChan w c cap buf' false s r false).blk (fun e => h.ne e) h.head, s, r, heap_setChan w c cap buf' false s r false (blk_lt hc)⟩

/-- what a select of one send hands over. -/
theorem fold_zE' : True := trivial
theorem res_s (b : Nat) (v z : Value) (i : Int) (ok : Bool) : commResult #[scase b v z] .select i undef ok = .tuple #[goInt i, .bool ok] := by
  simp [commResult, scase]
-- contracts
theorem mk_int (w : World) (n : Nat) (h : n ≤ 65536) : (Instr.makeChan 89 (.int .i64 n)).run Try.prog w = .ok (.chan (some w.heap.size)) (w.alloc (.chan n #[] false 0 0 false)) := by
  have h2 : ∃ i, Try.prog.info? 3 = some i ∧ i.bytes ≤ 232 := by
    have h : (Try.prog.info? 3).map (fun i => decide (i.bytes ≤ 232)) = some true := by kernel_rfl
    obtain ⟨i, hi, hb⟩ := Option.map_eq_some_iff.1 h
    exact ⟨i, hi, of_decide_eq_true hb⟩
  obtain ⟨i, hi, hb⟩ := h2
  refine run_makeChan (P := Try.prog) (w := w) Try.underlying89 hi .i64 n (by omega) ?_
  have h3 : i.bytes * n ≤ 232 * 65536 := Nat.mul_le_mul hb h
  have h4 : ((i.bytes * n : Nat) : Int) = (i.bytes : Int) * n := Int.natCast_mul _ _
  omega
theorem bnew_int (room : Int) (n : Nat) (w : World) (hn : (n : Int) = mx 0 (mn room 65536)) :
    Calls Try.prog 24 #[.int .i64 room] w fun e w' => e = .returned (.pointer (some ⟨w.heap.size + 1, 0, none⟩)) ∧ Below w.heap.size w w' ∧ BXT 91 w' (w.heap.size + 1) w.heap.size n #[] ∧ w'.heap.size = w.heap.size + 2 := by
  have hm : n ≤ 65536 := by unfold mx mn at hn; split at hn <;> split at hn <;> omega
  have hmc := mk_int w n hm
  rw [hn] at hmc
  go_enter Try.func24, Try.ntmps24
  go_wp2
  go_ret
  refine ⟨by simp, ?_, ⟨?_, 0, 0, ?_⟩, by simp⟩
  · exact ((Below.refl w.heap.size w).alloc (Nat.le_refl _) _).alloc (by simp) _
  · have := gblk_new (w.alloc (.chan n #[] false 0 0 false)) (.cells #[.chan (some w.heap.size)] 91)
    rw [show (w.alloc (.chan n #[] false 0 0 false)).heap.size = w.heap.size + 1 by simp] at this
    exact this
  · exact gblk_alloc _ (gblk_new w _)
theorem blen_int (g c cap : Nat) (buf : Array Value) (w : World) (h : BXT 91 w g c cap buf) :
    Calls Try.prog 30 #[.pointer (some ⟨g, 0, none⟩)] w fun e w' => e = .returned (.int .i64 buf.size) ∧ w' = w := by
  have hc := h.cell
  obtain ⟨s, r, hch⟩ := h.chan
  have hl := fun ty => run_len_chan (P := Try.prog) (w := w) (c := c) 89 ty Try.underlying89 hch
  clear h
  go_enter Try.func30, Try.ntmps30
  go_wp2
  go_ret
  exact ⟨rfl, rfl⟩
set_option maxRecDepth 100000 in
theorem bput_int (g c cap : Nat) (buf : Array Value) (x : Int) (w : World) (h : BXT 91 w g c cap buf) (hroom : buf.size < cap) :
    Calls Try.prog 28 #[.pointer (some ⟨g, 0, none⟩), .int .i64 x] w fun e w' => e = .returned (.bool true) ∧ Fr (fun k => k = c) w w' ∧ BXT 91 w' g c cap (buf.push (.int .i64 x)) := by
  have hc := h.cell
  refine calls_of_loneTo fun cs => ?_
  have e : Frame.enter Try.prog 28 #[.pointer (some ⟨g, 0, none⟩), .int .i64 x] .normal = (base 28).at ⟨#[.pointer (some ⟨g, 0, none⟩), .int .i64 x, undef, undef, undef, undef, undef, undef, undef, undef, undef, undef, undef, undef, undef], []⟩ [.code (Try.f28.body.getD .skip)] := by
    simp [Frame.enter, Frame.at, Try.func28, base, Try.f28]
  rw [e]
  refine LoneTo.goes (n := 60) ?_
  simp only [Try.f28, Option.getD_some]
  repeat (first | s_c stepG_seq | s_c stepG_region_end | s_c stepG_skip | s_c stepG_block | s_reg | s_cond true | s_cond false | (s_in; refine goes_oper_k rfl rfl (by decide) (fun K hK => ?_); (try simp only [List.getElem_toArray, List.getElem_cons_succ, List.getElem_cons_zero]); go_simp; refine hK _ _ ⟨trivial, ?_⟩; clear hK K))
  s_stop
  obtain ⟨s, r, hch⟩ := h.chan
  refine LoneTo.step (step_lone_select_send_room (c := c) (cap := cap) (buf := buf) (v := .int .i64 x) (z' := .int .i64 0) (s := s) (r := r) (tm := false) (stepG_comm (cases := #[scase c (.int .i64 x) (.int .i64 0)]) (blocking := false) (shape := .select) (w' := w) rfl rfl (by decide) (by simp [go_sem, execOp, scase, Act.eval, fold_zE'] <;> rfl)) hch hroom) ?_
  rw [Frame.finish_at]
  walk_nrm
  refine LoneTo.goes (n := 60) ?_
  repeat (first | s_c stepG_seq | s_c stepG_region_end | s_c stepG_skip | s_c stepG_block | s_reg | s_cond true | s_cond false | (s_in; refine goes_oper_k rfl rfl (by decide) (fun K hK => ?_); (try simp only [List.getElem_toArray, List.getElem_cons_succ, List.getElem_cons_zero]); go_simp; refine hK _ _ ⟨trivial, ?_⟩; clear hK K) | s_c stepG_ret')
  s_stop
  refine LoneTo.done ⟨.returned (.bool true), _, rfl, ⟨rfl, fr_setChan w c cap _ false _ _ _, h.put _ _⟩, rfl, rfl, rfl, rfl, _, Try.func28, by simp [results, Try.f28, Frame.at] <;> rfl⟩
set_option maxRecDepth 100000 in
theorem bput_int_full (g c cap : Nat) (buf : Array Value) (x : Int) (w : World) (h : BXT 91 w g c cap buf) (hroom : cap ≤ buf.size) :
    Calls Try.prog 28 #[.pointer (some ⟨g, 0, none⟩), .int .i64 x] w fun e w' => e = .returned (.bool false) ∧ Fr (fun k => k = c) w w' ∧ BXT 91 w' g c cap buf := by
  have hc := h.cell
  refine calls_of_loneTo fun cs => ?_
  have e : Frame.enter Try.prog 28 #[.pointer (some ⟨g, 0, none⟩), .int .i64 x] .normal = (base 28).at ⟨#[.pointer (some ⟨g, 0, none⟩), .int .i64 x, undef, undef, undef, undef, undef, undef, undef, undef, undef, undef, undef, undef, undef], []⟩ [.code (Try.f28.body.getD .skip)] := by
    simp [Frame.enter, Frame.at, Try.func28, base, Try.f28]
  rw [e]
  refine LoneTo.goes (n := 60) ?_
  simp only [Try.f28, Option.getD_some]
  repeat (first | s_c stepG_seq | s_c stepG_region_end | s_c stepG_skip | s_c stepG_block | s_reg | s_cond true | s_cond false | (s_in; refine goes_oper_k rfl rfl (by decide) (fun K hK => ?_); (try simp only [List.getElem_toArray, List.getElem_cons_succ, List.getElem_cons_zero]); go_simp; refine hK _ _ ⟨trivial, ?_⟩; clear hK K))
  s_stop
  obtain ⟨s, r, hch⟩ := h.chan
  refine LoneTo.step (step_lone_select_send_full (c := c) (cap := cap) (buf := buf) (v := .int .i64 x) (z' := .int .i64 0) (s := s) (r := r) (tm := false) (stepG_comm (cases := #[scase c (.int .i64 x) (.int .i64 0)]) (blocking := false) (shape := .select) (w' := w) rfl rfl (by decide) (by simp [go_sem, execOp, scase, Act.eval, fold_zE'] <;> rfl)) hch hroom) ?_
  rw [Frame.finish_at]
  walk_nrm
  refine LoneTo.goes (n := 60) ?_
  repeat (first | s_c stepG_seq | s_c stepG_region_end | s_c stepG_skip | s_c stepG_block | s_reg | s_cond true | s_cond false | (s_in; refine goes_oper_k rfl rfl (by decide) (fun K hK => ?_); (try simp only [List.getElem_toArray, List.getElem_cons_succ, List.getElem_cons_zero]); go_simp; refine hK _ _ ⟨trivial, ?_⟩; clear hK K) | s_c stepG_ret')
  s_stop
  refine LoneTo.done ⟨.returned (.bool false), _, rfl, ⟨rfl, Fr.refl _ _, h⟩, rfl, rfl, rfl, rfl, _, Try.func28, by simp [results, Try.f28, Frame.at] <;> rfl⟩
set_option maxRecDepth 100000 in
theorem btake_int (g c cap : Nat) (v : Value) (l : List Value) (w : World) (h : BXT 91 w g c cap (v :: l).toArray) :
    Calls Try.prog 26 #[.pointer (some ⟨g, 0, none⟩)] w fun e w' => e = .returned (.tuple #[v, .bool true]) ∧ Fr (fun k => k = c) w w' ∧ BXT 91 w' g c cap l.toArray := by
  have hc := h.cell
  refine calls_of_loneTo fun cs => ?_
  have e : Frame.enter Try.prog 26 #[.pointer (some ⟨g, 0, none⟩)] .normal = (base 26).at ⟨#[.pointer (some ⟨g, 0, none⟩), undef, undef, undef, undef, undef, undef, undef, undef, undef, undef, undef, undef, undef, undef, undef, undef, undef, undef], []⟩ [.code (Try.f26.body.getD .skip)] := by
    simp [Frame.enter, Frame.at, Try.func26, base, Try.f26]
  rw [e]
  refine LoneTo.goes (n := 60) ?_
  simp only [Try.f26, Option.getD_some]
  repeat (first | s_c stepG_seq | s_c stepG_region_end | s_c stepG_skip | s_c stepG_block | s_reg | s_cond true | s_cond false | (s_in; refine goes_oper_k rfl rfl (by decide) (fun K hK => ?_); (try simp only [List.getElem_toArray, List.getElem_cons_succ, List.getElem_cons_zero]); go_simp; refine hK _ _ ⟨trivial, ?_⟩; clear hK K))
  s_stop
  obtain ⟨s, r, hch⟩ := h.chan
  refine LoneTo.step (step_lone_select_recv_buf (c := c) (cap := cap) (buf := (v :: l).toArray) (closed := false) (z := .int .i64 0) (s := s) (r := r) (tm := false) (stepG_comm (cases := #[rcase c (.int .i64 0)]) (blocking := false) (shape := .select) (w' := w) rfl rfl (by decide) (by simp [go_sem, execOp, rcase, Act.eval] <;> rfl)) hch (by simp)) ?_
  rw [Frame.finish_at]
  walk_nrm
  refine LoneTo.goes (n := 60) ?_
  repeat (first | s_c stepG_seq | s_c stepG_region_end | s_c stepG_skip | s_c stepG_block | s_reg | s_cond true | s_cond false | (s_in; refine goes_oper_k rfl rfl (by decide) (fun K hK => ?_); (try simp only [List.getElem_toArray, List.getElem_cons_succ, List.getElem_cons_zero]); go_simp; refine hK _ _ ⟨trivial, ?_⟩; clear hK K) | s_c stepG_ret')
  s_stop
  refine LoneTo.done ⟨.returned (.tuple #[v, .bool true]), _, rfl, ⟨rfl, by simpa using fr_setChan w c cap l.toArray false s (r + 1) false, by simpa using h.put (buf' := l.toArray) s (r + 1)⟩, rfl, rfl, rfl, rfl, _, Try.func26, by simp [results, Try.f26, Frame.at] <;> rfl⟩
set_option maxRecDepth 100000 in
theorem btake_int_none (g c cap : Nat) (w : World) (h : BXT 91 w g c cap #[]) :
    Calls Try.prog 26 #[.pointer (some ⟨g, 0, none⟩)] w fun e w' => e = .returned (.tuple #[.int .i64 0, .bool false]) ∧ Fr (fun k => k = c) w w' ∧ BXT 91 w' g c cap #[] := by
  have hc := h.cell
  refine calls_of_loneTo fun cs => ?_
  have e : Frame.enter Try.prog 26 #[.pointer (some ⟨g, 0, none⟩)] .normal = (base 26).at ⟨#[.pointer (some ⟨g, 0, none⟩), undef, undef, undef, undef, undef, undef, undef, undef, undef, undef, undef, undef, undef, undef, undef, undef, undef, undef], []⟩ [.code (Try.f26.body.getD .skip)] := by
    simp [Frame.enter, Frame.at, Try.func26, base, Try.f26]
  rw [e]
  refine LoneTo.goes (n := 60) ?_
  simp only [Try.f26, Option.getD_some]
  repeat (first | s_c stepG_seq | s_c stepG_region_end | s_c stepG_skip | s_c stepG_block | s_reg | s_cond true | s_cond false | (s_in; refine goes_oper_k rfl rfl (by decide) (fun K hK => ?_); (try simp only [List.getElem_toArray, List.getElem_cons_succ, List.getElem_cons_zero]); go_simp; refine hK _ _ ⟨trivial, ?_⟩; clear hK K))
  s_stop
  obtain ⟨s, r, hch⟩ := h.chan
  refine LoneTo.step (step_lone_select_default (c := c) (cap := cap) (z := .int .i64 0) (s := s) (r := r) (tm := false) (stepG_comm (cases := #[rcase c (.int .i64 0)]) (blocking := false) (shape := .select) (w' := w) rfl rfl (by decide) (by simp [go_sem, execOp, rcase, Act.eval] <;> rfl)) hch) ?_
  rw [Frame.finish_at]
  walk_nrm
  refine LoneTo.goes (n := 60) ?_
  repeat (first | s_c stepG_seq | s_c stepG_region_end | s_c stepG_skip | s_c stepG_block | s_reg | s_cond true | s_cond false | (s_in; refine goes_oper_k rfl rfl (by decide) (fun K hK => ?_); (try simp only [List.getElem_toArray, List.getElem_cons_succ, List.getElem_cons_zero]); go_simp; refine hK _ _ ⟨trivial, ?_⟩; clear hK K) | s_c stepG_ret')
  s_stop
  refine LoneTo.done ⟨.returned (.tuple #[.int .i64 0, .bool false]), _, rfl, ⟨rfl, Fr.refl _ _, h⟩, rfl, rfl, rfl, rfl, _, Try.func26, by simp [results, Try.f26, Frame.at] <;> rfl⟩
theorem mk_str (w : World) (n : Nat) (h : n ≤ 65536) : (Instr.makeChan 92 (.int .i64 n)).run Try.prog w = .ok (.chan (some w.heap.size)) (w.alloc (.chan n #[] false 0 0 false)) := by
  have h2 : ∃ i, Try.prog.info? 9 = some i ∧ i.bytes ≤ 232 := by
    have h : (Try.prog.info? 9).map (fun i => decide (i.bytes ≤ 232)) = some true := by kernel_rfl
    obtain ⟨i, hi, hb⟩ := Option.map_eq_some_iff.1 h
    exact ⟨i, hi, of_decide_eq_true hb⟩
  obtain ⟨i, hi, hb⟩ := h2
  refine run_makeChan (P := Try.prog) (w := w) Try.underlying92 hi .i64 n (by omega) ?_
  have h3 : i.bytes * n ≤ 232 * 65536 := Nat.mul_le_mul hb h
  have h4 : ((i.bytes * n : Nat) : Int) = (i.bytes : Int) * n := Int.natCast_mul _ _
  omega
theorem bnew_str (room : Int) (n : Nat) (w : World) (hn : (n : Int) = mx 0 (mn room 65536)) :
    Calls Try.prog 25 #[.int .i64 room] w fun e w' => e = .returned (.pointer (some ⟨w.heap.size + 1, 0, none⟩)) ∧ Below w.heap.size w w' ∧ BXT 94 w' (w.heap.size + 1) w.heap.size n #[] ∧ w'.heap.size = w.heap.size + 2 := by
  have hm : n ≤ 65536 := by unfold mx mn at hn; split at hn <;> split at hn <;> omega
  have hmc := mk_str w n hm
  rw [hn] at hmc
  go_enter Try.func25, Try.ntmps25
  go_wp2
  go_ret
  refine ⟨by simp, ?_, ⟨?_, 0, 0, ?_⟩, by simp⟩
  · exact ((Below.refl w.heap.size w).alloc (Nat.le_refl _) _).alloc (by simp) _
  · have := gblk_new (w.alloc (.chan n #[] false 0 0 false)) (.cells #[.chan (some w.heap.size)] 94)
    rw [show (w.alloc (.chan n #[] false 0 0 false)).heap.size = w.heap.size + 1 by simp] at this
    exact this
  · exact gblk_alloc _ (gblk_new w _)
theorem blen_str (g c cap : Nat) (buf : Array Value) (w : World) (h : BXT 94 w g c cap buf) :
    Calls Try.prog 31 #[.pointer (some ⟨g, 0, none⟩)] w fun e w' => e = .returned (.int .i64 buf.size) ∧ w' = w := by
  have hc := h.cell
  obtain ⟨s, r, hch⟩ := h.chan
  have hl := fun ty => run_len_chan (P := Try.prog) (w := w) (c := c) 92 ty Try.underlying92 hch
  clear h
  go_enter Try.func31, Try.ntmps31
  go_wp2
  go_ret
  exact ⟨rfl, rfl⟩
set_option maxRecDepth 100000 in
theorem bput_str (g c cap : Nat) (buf : Array Value) (x : ByteArray) (w : World) (h : BXT 94 w g c cap buf) (hroom : buf.size < cap) :
    Calls Try.prog 29 #[.pointer (some ⟨g, 0, none⟩), .string x] w fun e w' => e = .returned (.bool true) ∧ Fr (fun k => k = c) w w' ∧ BXT 94 w' g c cap (buf.push (.string x)) := by
  have hc := h.cell
  refine calls_of_loneTo fun cs => ?_
  have e : Frame.enter Try.prog 29 #[.pointer (some ⟨g, 0, none⟩), .string x] .normal = (base 29).at ⟨#[.pointer (some ⟨g, 0, none⟩), .string x, undef, undef, undef, undef, undef, undef, undef, undef, undef, undef, undef, undef, undef], []⟩ [.code (Try.f29.body.getD .skip)] := by
    simp [Frame.enter, Frame.at, Try.func29, base, Try.f29]
  rw [e]
  refine LoneTo.goes (n := 60) ?_
  simp only [Try.f29, Option.getD_some]
  repeat (first | s_c stepG_seq | s_c stepG_region_end | s_c stepG_skip | s_c stepG_block | s_reg | s_cond true | s_cond false | (s_in; refine goes_oper_k rfl rfl (by decide) (fun K hK => ?_); (try simp only [List.getElem_toArray, List.getElem_cons_succ, List.getElem_cons_zero]); go_simp; refine hK _ _ ⟨trivial, ?_⟩; clear hK K))
  s_stop
  obtain ⟨s, r, hch⟩ := h.chan
  refine LoneTo.step (step_lone_select_send_room (c := c) (cap := cap) (buf := buf) (v := .string x) (z' := .string ByteArray.empty) (s := s) (r := r) (tm := false) (stepG_comm (cases := #[scase c (.string x) (.string ByteArray.empty)]) (blocking := false) (shape := .select) (w' := w) rfl rfl (by decide) (by simp [go_sem, execOp, scase, Act.eval, fold_zE'] <;> rfl)) hch hroom) ?_
  rw [Frame.finish_at]
  walk_nrm
  refine LoneTo.goes (n := 60) ?_
  repeat (first | s_c stepG_seq | s_c stepG_region_end | s_c stepG_skip | s_c stepG_block | s_reg | s_cond true | s_cond false | (s_in; refine goes_oper_k rfl rfl (by decide) (fun K hK => ?_); (try simp only [List.getElem_toArray, List.getElem_cons_succ, List.getElem_cons_zero]); go_simp; refine hK _ _ ⟨trivial, ?_⟩; clear hK K) | s_c stepG_ret')
  s_stop
  refine LoneTo.done ⟨.returned (.bool true), _, rfl, ⟨rfl, fr_setChan w c cap _ false _ _ _, h.put _ _⟩, rfl, rfl, rfl, rfl, _, Try.func29, by simp [results, Try.f29, Frame.at] <;> rfl⟩
set_option maxRecDepth 100000 in
theorem bput_str_full (g c cap : Nat) (buf : Array Value) (x : ByteArray) (w : World) (h : BXT 94 w g c cap buf) (hroom : cap ≤ buf.size) :
    Calls Try.prog 29 #[.pointer (some ⟨g, 0, none⟩), .string x] w fun e w' => e = .returned (.bool false) ∧ Fr (fun k => k = c) w w' ∧ BXT 94 w' g c cap buf := by
  have hc := h.cell
  refine calls_of_loneTo fun cs => ?_
  have e : Frame.enter Try.prog 29 #[.pointer (some ⟨g, 0, none⟩), .string x] .normal = (base 29).at ⟨#[.pointer (some ⟨g, 0, none⟩), .string x, undef, undef, undef, undef, undef, undef, undef, undef, undef, undef, undef, undef, undef], []⟩ [.code (Try.f29.body.getD .skip)] := by
    simp [Frame.enter, Frame.at, Try.func29, base, Try.f29]
  rw [e]
  refine LoneTo.goes (n := 60) ?_
  simp only [Try.f29, Option.getD_some]
  repeat (first | s_c stepG_seq | s_c stepG_region_end | s_c stepG_skip | s_c stepG_block | s_reg | s_cond true | s_cond false | (s_in; refine goes_oper_k rfl rfl (by decide) (fun K hK => ?_); (try simp only [List.getElem_toArray, List.getElem_cons_succ, List.getElem_cons_zero]); go_simp; refine hK _ _ ⟨trivial, ?_⟩; clear hK K))
  s_stop
  obtain ⟨s, r, hch⟩ := h.chan
  refine LoneTo.step (step_lone_select_send_full (c := c) (cap := cap) (buf := buf) (v := .string x) (z' := .string ByteArray.empty) (s := s) (r := r) (tm := false) (stepG_comm (cases := #[scase c (.string x) (.string ByteArray.empty)]) (blocking := false) (shape := .select) (w' := w) rfl rfl (by decide) (by simp [go_sem, execOp, scase, Act.eval, fold_zE'] <;> rfl)) hch hroom) ?_
  rw [Frame.finish_at]
  walk_nrm
  refine LoneTo.goes (n := 60) ?_
  repeat (first | s_c stepG_seq | s_c stepG_region_end | s_c stepG_skip | s_c stepG_block | s_reg | s_cond true | s_cond false | (s_in; refine goes_oper_k rfl rfl (by decide) (fun K hK => ?_); (try simp only [List.getElem_toArray, List.getElem_cons_succ, List.getElem_cons_zero]); go_simp; refine hK _ _ ⟨trivial, ?_⟩; clear hK K) | s_c stepG_ret')
  s_stop
  refine LoneTo.done ⟨.returned (.bool false), _, rfl, ⟨rfl, Fr.refl _ _, h⟩, rfl, rfl, rfl, rfl, _, Try.func29, by simp [results, Try.f29, Frame.at] <;> rfl⟩
set_option maxRecDepth 100000 in
theorem btake_str (g c cap : Nat) (v : Value) (l : List Value) (w : World) (h : BXT 94 w g c cap (v :: l).toArray) :
    Calls Try.prog 27 #[.pointer (some ⟨g, 0, none⟩)] w fun e w' => e = .returned (.tuple #[v, .bool true]) ∧ Fr (fun k => k = c) w w' ∧ BXT 94 w' g c cap l.toArray := by
  have hc := h.cell
  refine calls_of_loneTo fun cs => ?_
  have e : Frame.enter Try.prog 27 #[.pointer (some ⟨g, 0, none⟩)] .normal = (base 27).at ⟨#[.pointer (some ⟨g, 0, none⟩), undef, undef, undef, undef, undef, undef, undef, undef, undef, undef, undef, undef, undef, undef, undef, undef, undef, undef], []⟩ [.code (Try.f27.body.getD .skip)] := by
    simp [Frame.enter, Frame.at, Try.func27, base, Try.f27]
  rw [e]
  refine LoneTo.goes (n := 60) ?_
  simp only [Try.f27, Option.getD_some]
  repeat (first | s_c stepG_seq | s_c stepG_region_end | s_c stepG_skip | s_c stepG_block | s_reg | s_cond true | s_cond false | (s_in; refine goes_oper_k rfl rfl (by decide) (fun K hK => ?_); (try simp only [List.getElem_toArray, List.getElem_cons_succ, List.getElem_cons_zero]); go_simp; refine hK _ _ ⟨trivial, ?_⟩; clear hK K))
  s_stop
  obtain ⟨s, r, hch⟩ := h.chan
  refine LoneTo.step (step_lone_select_recv_buf (c := c) (cap := cap) (buf := (v :: l).toArray) (closed := false) (z := .string ByteArray.empty) (s := s) (r := r) (tm := false) (stepG_comm (cases := #[rcase c (.string ByteArray.empty)]) (blocking := false) (shape := .select) (w' := w) rfl rfl (by decide) (by simp [go_sem, execOp, rcase, Act.eval] <;> rfl)) hch (by simp)) ?_
  rw [Frame.finish_at]
  walk_nrm
  refine LoneTo.goes (n := 60) ?_
  repeat (first | s_c stepG_seq | s_c stepG_region_end | s_c stepG_skip | s_c stepG_block | s_reg | s_cond true | s_cond false | (s_in; refine goes_oper_k rfl rfl (by decide) (fun K hK => ?_); (try simp only [List.getElem_toArray, List.getElem_cons_succ, List.getElem_cons_zero]); go_simp; refine hK _ _ ⟨trivial, ?_⟩; clear hK K) | s_c stepG_ret')
  s_stop
  refine LoneTo.done ⟨.returned (.tuple #[v, .bool true]), _, rfl, ⟨rfl, by simpa using fr_setChan w c cap l.toArray false s (r + 1) false, by simpa using h.put (buf' := l.toArray) s (r + 1)⟩, rfl, rfl, rfl, rfl, _, Try.func27, by simp [results, Try.f27, Frame.at] <;> rfl⟩
set_option maxRecDepth 100000 in
theorem btake_str_none (g c cap : Nat) (w : World) (h : BXT 94 w g c cap #[]) :
    Calls Try.prog 27 #[.pointer (some ⟨g, 0, none⟩)] w fun e w' => e = .returned (.tuple #[.string ByteArray.empty, .bool false]) ∧ Fr (fun k => k = c) w w' ∧ BXT 94 w' g c cap #[] := by
  have hc := h.cell
  refine calls_of_loneTo fun cs => ?_
  have e : Frame.enter Try.prog 27 #[.pointer (some ⟨g, 0, none⟩)] .normal = (base 27).at ⟨#[.pointer (some ⟨g, 0, none⟩), undef, undef, undef, undef, undef, undef, undef, undef, undef, undef, undef, undef, undef, undef, undef, undef, undef, undef], []⟩ [.code (Try.f27.body.getD .skip)] := by
    simp [Frame.enter, Frame.at, Try.func27, base, Try.f27]
  rw [e]
  refine LoneTo.goes (n := 60) ?_
  simp only [Try.f27, Option.getD_some]
  repeat (first | s_c stepG_seq | s_c stepG_region_end | s_c stepG_skip | s_c stepG_block | s_reg | s_cond true | s_cond false | (s_in; refine goes_oper_k rfl rfl (by decide) (fun K hK => ?_); (try simp only [List.getElem_toArray, List.getElem_cons_succ, List.getElem_cons_zero]); go_simp; refine hK _ _ ⟨trivial, ?_⟩; clear hK K))
  s_stop
  obtain ⟨s, r, hch⟩ := h.chan
  refine LoneTo.step (step_lone_select_default (c := c) (cap := cap) (z := .string ByteArray.empty) (s := s) (r := r) (tm := false) (stepG_comm (cases := #[rcase c (.string ByteArray.empty)]) (blocking := false) (shape := .select) (w' := w) rfl rfl (by decide) (by simp [go_sem, execOp, rcase, Act.eval] <;> rfl)) hch) ?_
  rw [Frame.finish_at]
  walk_nrm
  refine LoneTo.goes (n := 60) ?_
  repeat (first | s_c stepG_seq | s_c stepG_region_end | s_c stepG_skip | s_c stepG_block | s_reg | s_cond true | s_cond false | (s_in; refine goes_oper_k rfl rfl (by decide) (fun K hK => ?_); (try simp only [List.getElem_toArray, List.getElem_cons_succ, List.getElem_cons_zero]); go_simp; refine hK _ _ ⟨trivial, ?_⟩; clear hK K) | s_c stepG_ret')
  s_stop
  refine LoneTo.done ⟨.returned (.tuple #[.string ByteArray.empty, .bool false]), _, rfl, ⟨rfl, Fr.refl _ _, h⟩, rfl, rfl, rfl, rfl, _, Try.func27, by simp [results, Try.f27, Frame.at] <;> rfl⟩
theorem mk_ev (w : World) (n : Nat) (h : n ≤ 65536) : (Instr.makeChan 79 (.int .i64 n)).run Try.prog w = .ok (.chan (some w.heap.size)) (w.alloc (.chan n #[] false 0 0 false)) := by
  have h2 : ∃ i, Try.prog.info? 39 = some i ∧ i.bytes ≤ 232 := by
    have h : (Try.prog.info? 39).map (fun i => decide (i.bytes ≤ 232)) = some true := by kernel_rfl
    obtain ⟨i, hi, hb⟩ := Option.map_eq_some_iff.1 h
    exact ⟨i, hi, of_decide_eq_true hb⟩
  obtain ⟨i, hi, hb⟩ := h2
  refine run_makeChan (P := Try.prog) (w := w) Try.underlying79 hi .i64 n (by omega) ?_
  have h3 : i.bytes * n ≤ 232 * 65536 := Nat.mul_le_mul hb h
  have h4 : ((i.bytes * n : Nat) : Int) = (i.bytes : Int) * n := Int.natCast_mul _ _
  omega
theorem bnew_ev (room : Int) (n : Nat) (w : World) (hn : (n : Int) = mx 0 (mn room 65536)) :
    Calls Try.prog 32 #[.int .i64 room] w fun e w' => e = .returned (.pointer (some ⟨w.heap.size + 1, 0, none⟩)) ∧ Below w.heap.size w w' ∧ BXT 81 w' (w.heap.size + 1) w.heap.size n #[] ∧ w'.heap.size = w.heap.size + 2 := by
  have hm : n ≤ 65536 := by unfold mx mn at hn; split at hn <;> split at hn <;> omega
  have hmc := mk_ev w n hm
  rw [hn] at hmc
  go_enter Try.func32, Try.ntmps32
  go_wp2
  go_ret
  refine ⟨by simp, ?_, ⟨?_, 0, 0, ?_⟩, by simp⟩
  · exact ((Below.refl w.heap.size w).alloc (Nat.le_refl _) _).alloc (by simp) _
  · have := gblk_new (w.alloc (.chan n #[] false 0 0 false)) (.cells #[.chan (some w.heap.size)] 81)
    rw [show (w.alloc (.chan n #[] false 0 0 false)).heap.size = w.heap.size + 1 by simp] at this
    exact this
  · exact gblk_alloc _ (gblk_new w _)
theorem blen_ev (g c cap : Nat) (buf : Array Value) (w : World) (h : BXT 81 w g c cap buf) :
    Calls Try.prog 35 #[.pointer (some ⟨g, 0, none⟩)] w fun e w' => e = .returned (.int .i64 buf.size) ∧ w' = w := by
  have hc := h.cell
  obtain ⟨s, r, hch⟩ := h.chan
  have hl := fun ty => run_len_chan (P := Try.prog) (w := w) (c := c) 79 ty Try.underlying79 hch
  clear h
  go_enter Try.func35, Try.ntmps35
  go_wp2
  go_ret
  exact ⟨rfl, rfl⟩
set_option maxRecDepth 100000 in
theorem bput_ev (g c cap : Nat) (buf : Array Value) (x : Ev) (w : World) (h : BXT 81 w g c cap buf) (hroom : buf.size < cap) :
    Calls Try.prog 33 #[.pointer (some ⟨g, 0, none⟩), .agg (evA x)] w fun e w' => e = .returned (.bool true) ∧ Fr (fun k => k = c) w w' ∧ BXT 81 w' g c cap (buf.push (.agg (evA x))) := by
  have h0 := h
  replace h := h.keep ((Below.refl w.heap.size w).alloc (Nat.le_refl _) (Obj.cells (evA x) 39))
  have hc := h0.cell
  have hgl := blk_lt h0.head
  have hgw : g ≠ w.heap.size := by omega
  refine calls_of_loneTo fun cs => ?_
  have e : Frame.enter Try.prog 33 #[.pointer (some ⟨g, 0, none⟩), .agg (evA x)] .normal = (base 33).at ⟨#[.pointer (some ⟨g, 0, none⟩), .agg (evA x), undef, undef, undef, undef, undef, undef, undef, undef, undef, undef, undef, undef, undef], []⟩ [.code (Try.f33.body.getD .skip)] := by
    simp [Frame.enter, Frame.at, Try.func33, base, Try.f33]
  rw [e]
  refine LoneTo.goes (n := 60) ?_
  simp only [Try.f33, Option.getD_some]
  repeat (first | s_c stepG_seq | s_c stepG_region_end | s_c stepG_skip | s_c stepG_block | s_reg | s_cond true | s_cond false | (s_in; refine goes_oper_k rfl rfl (by decide) (fun K hK => ?_); (try simp only [List.getElem_toArray, List.getElem_cons_succ, List.getElem_cons_zero]); go_simp; refine hK _ _ ⟨trivial, ?_⟩; clear hK K))
  s_stop
  obtain ⟨s, r, hch⟩ := h.chan
  refine LoneTo.step (step_lone_select_send_room (c := c) (cap := cap) (buf := buf) (v := .agg (evA x)) (z' := .agg (evA zE)) (s := s) (r := r) (tm := false) (stepG_comm (cases := #[scase c (.agg (evA x)) (.agg (evA zE))]) (blocking := false) (shape := .select) (w' := (w.alloc (.cells (evA x) 39))) rfl rfl (by decide) (by simp [go_sem, execOp, scase, Act.eval, fold_zE'] <;> rfl)) hch hroom) ?_
  rw [Frame.finish_at]
  walk_nrm
  refine LoneTo.goes (n := 60) ?_
  repeat (first | s_c stepG_seq | s_c stepG_region_end | s_c stepG_skip | s_c stepG_block | s_reg | s_cond true | s_cond false | (s_in; refine goes_oper_k rfl rfl (by decide) (fun K hK => ?_); (try simp only [List.getElem_toArray, List.getElem_cons_succ, List.getElem_cons_zero]); go_simp; refine hK _ _ ⟨trivial, ?_⟩; clear hK K) | s_c stepG_ret')
  s_stop
  refine LoneTo.done ⟨.returned (.bool true), _, rfl, ⟨rfl, (Fr.of_below ((Below.refl w.heap.size w).alloc (Nat.le_refl _) _)).trans (fr_setChan (w.alloc (.cells (evA x) 39)) c cap _ false _ _ _), h.put _ _⟩, rfl, rfl, rfl, rfl, _, Try.func33, by simp [results, Try.f33, Frame.at] <;> rfl⟩
set_option maxRecDepth 100000 in
theorem bput_ev_full (g c cap : Nat) (buf : Array Value) (x : Ev) (w : World) (h : BXT 81 w g c cap buf) (hroom : cap ≤ buf.size) :
    Calls Try.prog 33 #[.pointer (some ⟨g, 0, none⟩), .agg (evA x)] w fun e w' => e = .returned (.bool false) ∧ Fr (fun k => k = c) w w' ∧ BXT 81 w' g c cap buf := by
  have h0 := h
  replace h := h.keep ((Below.refl w.heap.size w).alloc (Nat.le_refl _) (Obj.cells (evA x) 39))
  have hc := h0.cell
  have hgl := blk_lt h0.head
  have hgw : g ≠ w.heap.size := by omega
  refine calls_of_loneTo fun cs => ?_
  have e : Frame.enter Try.prog 33 #[.pointer (some ⟨g, 0, none⟩), .agg (evA x)] .normal = (base 33).at ⟨#[.pointer (some ⟨g, 0, none⟩), .agg (evA x), undef, undef, undef, undef, undef, undef, undef, undef, undef, undef, undef, undef, undef], []⟩ [.code (Try.f33.body.getD .skip)] := by
    simp [Frame.enter, Frame.at, Try.func33, base, Try.f33]
  rw [e]
  refine LoneTo.goes (n := 60) ?_
  simp only [Try.f33, Option.getD_some]
  repeat (first | s_c stepG_seq | s_c stepG_region_end | s_c stepG_skip | s_c stepG_block | s_reg | s_cond true | s_cond false | (s_in; refine goes_oper_k rfl rfl (by decide) (fun K hK => ?_); (try simp only [List.getElem_toArray, List.getElem_cons_succ, List.getElem_cons_zero]); go_simp; refine hK _ _ ⟨trivial, ?_⟩; clear hK K))
  s_stop
  obtain ⟨s, r, hch⟩ := h.chan
  refine LoneTo.step (step_lone_select_send_full (c := c) (cap := cap) (buf := buf) (v := .agg (evA x)) (z' := .agg (evA zE)) (s := s) (r := r) (tm := false) (stepG_comm (cases := #[scase c (.agg (evA x)) (.agg (evA zE))]) (blocking := false) (shape := .select) (w' := (w.alloc (.cells (evA x) 39))) rfl rfl (by decide) (by simp [go_sem, execOp, scase, Act.eval, fold_zE'] <;> rfl)) hch hroom) ?_
  rw [Frame.finish_at]
  walk_nrm
  refine LoneTo.goes (n := 60) ?_
  repeat (first | s_c stepG_seq | s_c stepG_region_end | s_c stepG_skip | s_c stepG_block | s_reg | s_cond true | s_cond false | (s_in; refine goes_oper_k rfl rfl (by decide) (fun K hK => ?_); (try simp only [List.getElem_toArray, List.getElem_cons_succ, List.getElem_cons_zero]); go_simp; refine hK _ _ ⟨trivial, ?_⟩; clear hK K) | s_c stepG_ret')
  s_stop
  refine LoneTo.done ⟨.returned (.bool false), _, rfl, ⟨rfl, Fr.of_below ((Below.refl w.heap.size w).alloc (Nat.le_refl _) _), h⟩, rfl, rfl, rfl, rfl, _, Try.func33, by simp [results, Try.f33, Frame.at] <;> rfl⟩

end Go.Proofs.Ytpdckjfkkiameaa
