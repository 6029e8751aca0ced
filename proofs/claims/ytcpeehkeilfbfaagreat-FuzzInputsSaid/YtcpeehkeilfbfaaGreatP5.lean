/- Parts D11, S11, D12, L4, S12, D13, Bb, Bc, D14, D15, D16, D17, S13, D18, D19, S14: a logic over abstract states, contracts of the code and plain laws, made from the texts in wip by wip/tools/pack.py. -/
import Derived.Test.YtcpeehkeilfbfaaGreatP4
import Derived.Test.YtcpeehkeilfbfaaGreatP3
set_option linter.unusedSimpArgs false
set_option linter.unusedVariables false
namespace Go.AL
open Go.Proofs
theorem last_idx {l : List Inst} (hl : l.length < 1000000) (h0 : 0 < l.length) : 0 ≤ IntKind.i64.wrap ((l.length : Int) - 1) ∧ (l.map instD)[(IntKind.i64.wrap ((l.length : Int) - 1)).toNat]? = some (instD (l.getD (l.length - 1) default)) := by
  have hw : IntKind.i64.wrap ((l.length : Int) - 1) = ((l.length - 1 : Nat) : Int) := by rw [wrapI ⟨by omega, by omega⟩]; omega
  rw [hw]
  refine ⟨by omega, ?_⟩
  rw [Int.toNat_natCast, insts_get (by omega), List.getD_eq_getElem?_getD, List.getElem?_eq_getElem (by omega)]; rfl
theorem prev_idx {l : List Inst} {i : Nat} (hi : i < l.length) (hl : l.length < 1000000) (h0 : 0 < i) : 0 ≤ IntKind.i64.wrap ((i : Int) - 1) ∧ (l.map instD)[(IntKind.i64.wrap ((i : Int) - 1)).toNat]? = some (instD (l.getD (i - 1) default)) := by
  have hw : IntKind.i64.wrap ((i : Int) - 1) = ((i - 1 : Nat) : Int) := by rw [wrapI ⟨by omega, by omega⟩]; omega
  rw [hw]
  refine ⟨by omega, ?_⟩
  rw [Int.toNat_natCast, insts_get (by omega), List.getD_eq_getElem?_getD, List.getElem?_eq_getElem (by omega)]; rfl
theorem lastOk_code {l : List Inst} : lastOk l = !(((l.length : Int) == 0) || !(isLastR (l.getD (l.length - 1) default).op)) := by
  unfold lastOk
  by_cases h : 0 < l.length
  · rw [dif_pos h, List.getD_eq_getElem?_getD, List.getElem?_eq_getElem (by omega)]
    have : ((l.length : Int) == 0) = false := by rw [beq_eq_false_iff_ne]; omega
    rw [this]; simp
  · rw [dif_neg h]
    have : ((l.length : Int) == 0) = true := by rw [beq_iff_eq]; omega
    rw [this]; rfl
theorem lay_code {l : List Inst} {i : Nat} (hi : i < l.length) (hl : l.length < 1000000) :
    ((decide ((i : Int) < IntKind.i64.wrap ((l.length : Int) - 1)) && isLastR l[i].op) || ((l[i].op == 28 && decide ((i : Int) > 0)) && (l.getD (i - 1) default).op != 28)) = layBadID l i := by
  have hw : IntKind.i64.wrap ((l.length : Int) - 1) = (l.length : Int) - 1 := by rw [wrapI ⟨by omega, by omega⟩]
  rw [hw, List.getD_eq_getElem?_getD, List.getElem?_eq_getElem (by omega)]
  simp only [layBadID, dif_pos hi, layBadI, Option.getD_some]
theorem e99 : Enters Tryz.prog 99 := enters_of Tryz.func99 (by kernel_rfl) (by kernel_rfl)
set_option maxRecDepth 100000 in
set_option maxHeartbeats 4000000 in
theorem c99 (f : Fn) (hf : f.Fits) (hgr : f.blocks.all blockI = true → GG (graphR f)) : Ok Tryz.prog 99 [.dat none (fnD f)] [] (.v (.bool (rulesR f))) [] := by
  refine ok_of e99 Tryz.func99 rfl (by kernel_rfl) ?_
  intro cx hP hro hN hvk
  obtain ⟨P, ro, w0, Bin, N, R0, tk0, bl0, vk⟩ := cx
  subst hP hro hN
  have hvkd := vkd_of hvk
  have hbf := hf.blocks
  refine aw_seq ?_
  refine aw_region ?_
  refine al_opc (k := 101) rfl rfl rfl ((hvk _).trans rfl) (opC_box rfl (ev_tmp rfl) rfl) ?_
  refine al_opc (k := 102) rfl rfl rfl ((hvk _).trans rfl) (opC_alloc rfl z4) ?_
  refine al_nil ?_
  refine aw_seq ?_
  refine aw_seq ?_
  refine aw_region ?_
  refine al_op rfl rfl rfl (opP_fieldAddr rfl (ev_tmp rfl) u27 rfl rfl s25 rfl) ?_
  refine al_op rfl rfl rfl (opP_load_pt rfl u25 rfl (ev_tmp rfl) rfl rfl) ?_
  refine al_op rfl rfl rfl (opP_len rfl u25 (ev_tmp rfl) (by first | exact lenA_ints | exact lenA_map | rfl)) ?_
  refine al_op rfl rfl rfl (opP_move rfl (ev_const rfl)) ?_
  refine al_nil ?_
  refine aw_block ?_
  refine aw_loop' (α := Nat) (fun b => [(1, .pt 101 0), (2, .pt 102 0), (14, .dat none (.sl 1 (f.blocks.map instsD))), (15, .v (.int .i64 f.blocks.length)), (16, .v (.int .i64 b))]) (fun b => [(101, .var (fnA f)), (102, .var [.v (.bool false)])]) (fun b => b ≤ f.blocks.length ∧ (f.blocks.take b).all blockI = true) (fun b => f.blocks.length - b) 0 ⟨Nat.zero_le _, rfl⟩ id (Fit.of ⟨rfl, rfl, trivial⟩ ⟨rfl, rfl, rfl, rfl, rfl, trivial⟩ rfl rfl) ?_
  rintro b ⟨hb, hal⟩
  refine aw_seq ?_
  refine aw_region ?_
  refine al_op rfl rfl rfl (opP_bin rfl (ev_tmp rfl) (ev_tmp rfl) rfl) ?_
  refine al_nil ?_
  refine aw_seq ?_
  refine aw_cond rfl (fun h1 => ?_) (fun h1 => ?_)
  · have hbl : b < f.blocks.length := by simpa using h1
    have hll := hf.insts _ (List.getElem_mem hbl)
    have hix := last_idx (l := f.blocks[b]) hll
    refine aw_skip ?_
    refine aw_seq ?_
    refine aw_block ?_
    refine aw_seq ?_
    refine aw_region ?_
    refine al_op rfl rfl rfl (opP_index_dat rfl u25 s35 (ev_tmp rfl) (ev_tmp rfl) (fun _ => Int.natCast_nonneg _) (fun _ => blocks_get hbl)) ?_
    refine al_op rfl rfl rfl (opP_load_pr rfl u35 rfl (ev_tmp rfl)) ?_
    refine al_op rfl rfl rfl (opP_assign rfl (ev_tmp rfl)) ?_
    refine al_nil ?_
    refine aw_seq ?_
    refine aw_seq ?_
    refine aw_region ?_
    refine al_op rfl rfl rfl (opP_move rfl (ev_tmp rfl)) ?_
    refine al_op rfl rfl rfl (opP_len rfl u35 (ev_tmp rfl) (by first | exact lenA_ints | exact lenA_map | rfl)) ?_
    refine al_op rfl rfl rfl (opP_bin rfl (ev_tmp rfl) (ev_const rfl) rfl) ?_
    refine al_op rfl rfl rfl (opP_move rfl (ev_tmp rfl)) ?_
    refine al_opg rfl rfl rfl rfl rfl rfl (opP_move rfl (ev_tmp rfl)) ?_
    refine al_opg rfl rfl rfl rfl rfl rfl (opP_move rfl (ev_tmp rfl)) ?_
    refine al_opg rfl rfl rfl rfl rfl rfl (opP_len rfl u35 (ev_when rfl id) (by first | exact lenA_ints | exact lenA_map | rfl)) ?_
    refine al_opg rfl rfl rfl rfl rfl rfl (opP_bin rfl (ev_when rfl id) (ev_const rfl) rfl) ?_
    refine al_opg rfl rfl rfl rfl rfl rfl (opP_index_dat rfl u35 s38 (ev_when rfl id) (ev_when rfl id) (fun gd => (hix (List.length_pos_iff.2 (by simp at gd; exact gd))).1) (fun gd => (hix (List.length_pos_iff.2 (by simp at gd; exact gd))).2)) ?_
    refine al_opg rfl rfl rfl rfl rfl rfl (opP_fieldAddr rfl (ev_when rfl id) u38 rfl rfl s3 rfl) ?_
    refine al_opg rfl rfl rfl rfl rfl rfl (opP_load_pr rfl u3 rfl (ev_when rfl id)) ?_
    refine al_stepD rfl rfl (stepD_callg rfl rfl rfl rfl (callOf_func rfl (.cons (ev_when rfl id) .nil)) (fun gd => c164 (f.blocks[b].getD (f.blocks[b].length - 1) default).op) (fun gd => (by repeat' (first | refine Vw.stDOf ?_ | refine Vw.ptOf rfl rfl rfl ?_ | refine Vw.prvOf ?_ | refine Vw.cloOf ?_ | constructor))) rfl (fun _ => rfl)) ?_
    refine al_opg rfl rfl rfl rfl rfl rfl (opP_not rfl (ev_when rfl id)) ?_
    refine al_op rfl rfl rfl (opP_or rfl (ev_tmp rfl) (ev_when rfl id)) ?_
    refine al_nil ?_
    refine aw_cond rfl (fun h2 => ?_) (fun h2 => ?_)
    · have hbad : blockI f.blocks[b] = false := by
        unfold blockI; rw [lastOk_code, h2]; rfl
      have hru : rulesR f = false := by rw [rules_eq, show f.blocks.all blockI = false from List.all_eq_false.2 ⟨_, List.getElem_mem hbl, by rw [hbad]; simp⟩]; rfl
      refine aw_seq ?_
      refine aw_region ?_
      refine al_store_pt rfl rfl rfl s4 (ev_tmp rfl) (ev_const rfl) rfl rfl rfl rfl rfl rfl ?_
      refine al_nil ?_
      refine aw_ret ?_
      rw [hru]; exact ret_id _ (.cell rfl u4 rfl rfl rfl .nil) rfl trivial rfl rfl
    have hlo : lastOk f.blocks[b] = true := by rw [lastOk_code, h2]; rfl
    refine aw_skip ?_
    refine aw_seq ?_
    refine aw_region ?_
    refine al_op rfl rfl rfl (opP_move rfl (ev_tmp rfl)) ?_
    refine al_op rfl rfl rfl (opP_len rfl u35 (ev_tmp rfl) (by first | exact lenA_ints | exact lenA_map | rfl)) ?_
    refine al_op rfl rfl rfl (opP_move rfl (ev_const rfl)) ?_
    refine al_nil ?_
    refine aw_block ?_
    refine aw_loop' (α := Nat) (fun i => [(1, .pt 101 0), (2, .pt 102 0), (4, .dat none (instsD f.blocks[b])), (14, .dat none (.sl 1 (f.blocks.map instsD))), (15, .v (.int .i64 f.blocks.length)), (16, .v (.int .i64 b)), (34, .dat none (instsD f.blocks[b])), (35, .v (.int .i64 f.blocks[b].length)), (36, .v (.int .i64 i))]) (fun i => [(101, .var (fnA f)), (102, .var [.v (.bool false)])]) (fun i => i ≤ f.blocks[b].length ∧ ((List.range i).all fun i => !(layBadID f.blocks[b] i)) = true) (fun i => f.blocks[b].length - i) 0 ⟨Nat.zero_le _, rfl⟩ id (Fit.of ⟨rfl, rfl, trivial⟩ ⟨rfl, rfl, rfl, rfl, rfl, rfl, rfl, rfl, rfl, trivial⟩ rfl rfl) ?_
    rintro i ⟨hi, hli⟩
    refine aw_seq ?_
    refine aw_region ?_
    refine al_op rfl rfl rfl (opP_bin rfl (ev_tmp rfl) (ev_tmp rfl) rfl) ?_
    refine al_nil ?_
    refine aw_seq ?_
    refine aw_condS rfl (fun h3 => ?_) (fun h3 => ?_)
    · refine aw_exit ?_
      refine aw_region ?_
      refine al_op rfl rfl rfl (opP_bin rfl (ev_tmp rfl) (ev_const rfl) rfl) ?_
      refine al_op rfl rfl rfl (opP_move rfl (ev_tmp rfl)) ?_
      refine al_nil ?_
      have hbi : blockI f.blocks[b] = true := by
        have e : i = f.blocks[b].length := by simp at h3; omega
        rw [e] at hli
        unfold blockI; rw [hlo, hli]; rfl
      refine ⟨b + 1, id, ⟨hbl, ?_⟩, by omega, Fit.of ⟨rfl, rfl, trivial⟩ ⟨rfl, rfl, rfl, rfl, by rw [← wrapS (by omega)]; rfl, trivial⟩ rfl rfl⟩
      rw [List.take_succ_eq_append_getElem hbl, List.all_append, hal]; simp [hbi]
    have hil : i < f.blocks[b].length := by simpa using h3
    have hcode := lay_code hil hll
    have hpx := prev_idx (l := f.blocks[b]) hil hll
    refine aw_skip ?_
    refine aw_seq ?_
    refine aw_block ?_
    refine aw_seq ?_
    refine aw_region ?_
    refine al_op rfl rfl rfl (opP_move rfl (ev_tmp rfl)) ?_
    refine al_op rfl rfl rfl (opP_index_dat rfl u35 s38 (ev_tmp rfl) (ev_tmp rfl) (fun _ => Int.natCast_nonneg _) (fun _ => insts_get hil)) ?_
    refine al_op rfl rfl rfl (opP_load_prn rfl u38 rfl s38 (ev_tmp rfl) rfl) ?_
    refine al_opc (k := 103) rfl rfl rfl ((hvk _).trans rfl) (opC_alloc rfl z38) ?_
    refine al_op rfl rfl rfl (opP_assign rfl (ev_tmp rfl)) ?_
    refine al_store_pt rfl rfl rfl s38 (ev_tmp rfl) (ev_tmp rfl) rfl rfl rfl rfl rfl rfl ?_
    refine al_nil ?_
    refine aw_seq ?_
    refine aw_region ?_
    refine al_op rfl rfl rfl (opP_move rfl (ev_tmp rfl)) ?_
    refine al_op rfl rfl rfl (opP_move rfl (ev_tmp rfl)) ?_
    refine al_op rfl rfl rfl (opP_len rfl u35 (ev_tmp rfl) (by first | exact lenA_ints | exact lenA_map | rfl)) ?_
    refine al_op rfl rfl rfl (opP_bin rfl (ev_tmp rfl) (ev_const rfl) rfl) ?_
    refine al_op rfl rfl rfl (opP_bin rfl (ev_tmp rfl) (ev_tmp rfl) rfl) ?_
    refine al_op rfl rfl rfl (opP_move rfl (ev_tmp rfl)) ?_
    refine al_opg rfl rfl rfl rfl rfl rfl (opP_fieldAddr rfl (ev_tmp rfl) u38 rfl rfl s3 rfl) ?_
    refine al_opg rfl rfl rfl rfl rfl rfl (opP_load_pt rfl u3 rfl (ev_when rfl id) rfl rfl) ?_
    refine al_stepD rfl rfl (stepD_callg rfl rfl rfl rfl (callOf_func rfl (.cons (ev_when rfl id) .nil)) (fun gd => c164 f.blocks[b][i].op) (fun gd => (by repeat' (first | refine Vw.stDOf ?_ | refine Vw.ptOf rfl rfl rfl ?_ | refine Vw.prvOf ?_ | refine Vw.cloOf ?_ | constructor))) rfl (fun _ => rfl)) ?_
    refine al_op rfl rfl rfl (opP_and rfl (ev_tmp rfl) (ev_when rfl id)) ?_
    refine al_op rfl rfl rfl (opP_move rfl (ev_tmp rfl)) ?_
    refine al_opg rfl rfl rfl rfl rfl rfl (opP_fieldAddr rfl (ev_tmp rfl) u38 rfl rfl s3 rfl) ?_
    refine al_opg rfl rfl rfl rfl rfl rfl (opP_load_pt rfl u3 rfl (ev_when rfl id) rfl rfl) ?_
    refine al_opg rfl rfl rfl rfl rfl rfl (opP_bin rfl (ev_when rfl id) (ev_const rfl) rfl) ?_
    refine al_opg rfl rfl rfl rfl rfl rfl (opP_move rfl (ev_when rfl id)) ?_
    refine al_opg rfl rfl rfl rfl rfl rfl (opP_move rfl (ev_tmp rfl)) ?_
    refine al_opg rfl rfl rfl rfl rfl rfl (opP_bin rfl (ev_when rfl id) (ev_const rfl) rfl) ?_
    refine al_opg rfl rfl rfl rfl rfl rfl (opP_and rfl (ev_when rfl id) (ev_when rfl id)) ?_
    refine al_opg rfl rfl rfl rfl rfl rfl (opP_move rfl (ev_when rfl id)) ?_
    refine al_opg rfl rfl rfl rfl rfl rfl (opP_move rfl (ev_tmp rfl)) ?_
    refine al_opg rfl rfl rfl rfl rfl rfl (opP_move rfl (ev_tmp rfl)) ?_
    refine al_opg rfl rfl rfl rfl rfl rfl (opP_bin rfl (ev_when rfl id) (ev_const rfl) rfl) ?_
    refine al_opg rfl rfl rfl rfl rfl rfl (opP_index_dat rfl u35 s38 (ev_when rfl id) (ev_when rfl id) (fun gd => (hpx (by simp at gd; exact gd.2.2)).1) (fun gd => (hpx (by simp at gd; exact gd.2.2)).2)) ?_
    refine al_opg rfl rfl rfl rfl rfl rfl (opP_fieldAddr rfl (ev_when rfl id) u38 rfl rfl s3 rfl) ?_
    refine al_opg rfl rfl rfl rfl rfl rfl (opP_load_pr rfl u3 rfl (ev_when rfl id)) ?_
    refine al_opg rfl rfl rfl rfl rfl rfl (opP_bin rfl (ev_when rfl id) (ev_const rfl) rfl) ?_
    refine al_opg rfl rfl rfl rfl rfl rfl (opP_and rfl (ev_when rfl id) (ev_when rfl id)) ?_
    refine al_op rfl rfl rfl (opP_or rfl (ev_tmp rfl) (ev_when rfl id)) ?_
    refine al_nil ?_
    refine aw_condS rfl (fun h4 => ?_) (fun h4 => ?_)
    · refine aw_skip ?_
      refine aw_region ?_
      refine al_op rfl rfl rfl (opP_bin rfl (ev_tmp rfl) (ev_const rfl) rfl) ?_
      refine al_op rfl rfl rfl (opP_move rfl (ev_tmp rfl)) ?_
      refine al_nil ?_
      refine ⟨i + 1, id, ⟨hil, ?_⟩, by omega, Fit.of ⟨rfl, rfl, trivial⟩ ⟨rfl, rfl, rfl, rfl, rfl, rfl, rfl, rfl, by rw [← wrapS (by omega)]; rfl, trivial⟩ rfl rfl⟩
      have hlb : layBadID f.blocks[b] i = false := by rw [← hcode]; exact h4
      rw [List.range_succ, List.all_append, hli]; simp [hlb]
    have hbad : blockI f.blocks[b] = false := by
      unfold blockI
      rw [show ((List.range f.blocks[b].length).all fun i => !(layBadID f.blocks[b] i)) = false from List.all_eq_false.2 ⟨i, List.mem_range.2 hil, by rw [show layBadID f.blocks[b] i = true from by rw [← hcode]; exact h4]; simp⟩]; simp
    have hru : rulesR f = false := by rw [rules_eq, show f.blocks.all blockI = false from List.all_eq_false.2 ⟨_, List.getElem_mem hbl, by rw [hbad]; simp⟩]; rfl
    refine aw_seq ?_
    refine aw_region ?_
    refine al_store_pt rfl rfl rfl s4 (ev_tmp rfl) (ev_const rfl) rfl rfl rfl rfl rfl rfl ?_
    refine al_nil ?_
    refine aw_ret ?_
    rw [hru]; exact ret_id _ (.cell rfl u4 rfl rfl rfl .nil) rfl trivial rfl rfl
  have hall : f.blocks.all blockI = true := by
    have e : b = f.blocks.length := by simp at h1; omega
    rw [e, List.take_length] at hal; exact hal
  have hne := blockI_ne hall
  have hgg := hgr hall
  have hgl := graph_len f
  have hg0 := hgg.pos
  have hbz := beforeN_le (graphR f) 0 (graphR f).length
  refine aw_exit ?_
  refine aw_seq ?_
  refine aw_region ?_
  refine al_op rfl rfl rfl (opP_load_ptn rfl u27 rfl s27 (ev_tmp rfl) rfl rfl) ?_
  refine al_call (id) rfl rfl rfl (callOf_func rfl (.cons (ev_tmp rfl) .nil)) (c138 f hf hne) (by repeat' (first | refine Vw.stDOf ?_ | refine Vw.ptOf rfl rfl rfl ?_ | refine Vw.prvOf ?_ | refine Vw.cloOf ?_ | constructor)) (fun _ h => absurd h (by simp)) rfl rfl rfl (fun p hp => .inr ((hvk _).trans (by simp at hp; subst hp; rfl))) ?_
  refine al_opc (k := 104) rfl rfl rfl ((hvk _).trans rfl) (opC_alloc rfl z47) ?_
  refine al_store_pt rfl rfl rfl s47 (ev_tmp rfl) (ev_tmp rfl) rfl rfl rfl rfl rfl rfl ?_
  refine al_nil ?_
  refine aw_seq ?_
  refine aw_seq ?_
  refine aw_region ?_
  refine al_op rfl rfl rfl (opP_load_pt rfl u47 rfl (ev_tmp rfl) rfl rfl) ?_
  refine al_call (id) rfl rfl rfl (callOf_func rfl (.cons (ev_tmp rfl) (.cons (ev_const rfl) .nil))) (c165 (graphR f) 0 hgg (by omega) (by omega)) (.cons (Vw.row _ _ _ _ _ _ rfl rfl (by simp [graph_len]) (by rw [List.drop_zero, List.take_of_length_le (by simp [graph_len])])) (.cons (.v _) .nil)) (fun _ h => absurd h (by simp)) rfl rfl rfl (fun p hp => .inr ((hvk _).trans (by simp at hp; subst hp; rfl))) ?_
  refine al_op rfl rfl rfl (opP_move rfl (ev_tmp rfl)) ?_
  refine al_op rfl rfl rfl (opP_extract rfl (ev_tmp rfl) rfl) ?_
  refine al_op rfl rfl rfl (opP_extract rfl (ev_tmp rfl) rfl) ?_
  refine al_op rfl rfl rfl (opP_assign rfl (ev_tmp rfl)) ?_
  refine al_op rfl rfl rfl (opP_assign rfl (ev_tmp rfl)) ?_
  refine al_nil ?_
  refine aw_seq ?_
  refine aw_region ?_
  refine al_op rfl rfl rfl (opP_move rfl (ev_tmp rfl)) ?_
  refine al_op rfl rfl rfl (opP_len rfl u22 (ev_tmp rfl) (by first | exact lenA_ints | exact lenA_map | rfl)) ?_
  refine al_op rfl rfl rfl (opP_bin rfl (ev_tmp rfl) (ev_const rfl) rfl) ?_
  refine al_nil ?_
  refine aw_cond rfl (fun h5 => ?_) (fun h5 => ?_)
  · refine aw_seq ?_
    refine aw_region ?_
    refine al_store_pt rfl rfl rfl s4 (ev_tmp rfl) (ev_const rfl) rfl rfl rfl rfl rfl rfl ?_
    refine al_nil ?_
    refine aw_ret ?_
    have hru : rulesR f = false := by
      have e : ((beforeR (graphR f) 0).length == 0) = false := by
        have h6 := of_decide_eq_true (show decide (((beforeR (graphR f) 0).length : Int) > 0) = true from h5)
        rw [beq_eq_false_iff_ne]; omega
      rw [rules_eq, hall, e]; rfl
    rw [hru]; exact ret_id _ (.cell rfl u4 rfl rfl rfl .nil) rfl trivial rfl rfl
  have hb0 : ((beforeR (graphR f) 0).length == 0) = true := by
    have h6 := of_decide_eq_false (show decide (((beforeR (graphR f) 0).length : Int) > 0) = false from h5)
    rw [beq_iff_eq]; omega
  refine aw_skip ?_
  refine aw_seq ?_
  refine aw_seq ?_
  refine aw_region ?_
  refine al_op rfl rfl rfl (opP_load_ptn rfl u27 rfl s27 (ev_tmp rfl) rfl rfl) ?_
  refine al_callR (id) rfl rfl rfl (callOf_func rfl (.cons (ev_tmp rfl) .nil)) (c97 f) (by repeat' (first | refine VwR.stDOf ?_ | refine VwR.stOf ?_ | refine VwR.cloOf ?_ | constructor)) rfl rfl rfl (fun p hp => (hvk _).trans (by simp at hp; subst hp; rfl)) ?_
  refine al_nil ?_
  refine aw_block ?_
  refine aw_range (α := Unit) (p := 83) (it160 f hf 97001 rfl) rfl rfl rfl 301 [102] [] [(2, .pt 102 0), (7, .pt 104 0)] [(2, .pt 102 0), (7, .prv [.dat none (.sl 1 ((graphR f).map rowD))])] [(97001, .var (fnA f)), (104, .var [.row 138001 1 0 f.blocks.length]), (138001, .row 1 ((graphR f).map rowD))] (fun n _ => [(102, .var [.v (.bool false)])]) (fun n _ => phiN f n = true) (fun c po => c = .ret ∧ po = [(102, .var [.v (.bool false)])] ∧ rulesR f = false) (fun n => itemOf f n) () rfl rfl ((hvk _).trans rfl) (fun k hk => hvkd [] rfl k (inL_iff.1 hk)) (fun k hk => hvkd [160001] rfl k (inL_iff.1 hk)) rfl rfl rfl rfl (by repeat (first | exact trivial | refine ⟨rfl, ?_⟩)) rfl rfl (by repeat (first | exact trivial | refine ⟨rfl, ?_⟩)) (by repeat (first | exact trivial | refine ⟨rfl, ?_⟩)) (fun objs h => has_one h) (fun n x h => rfl) (fun c po h => by obtain ⟨_, rfl, _⟩ := h; rfl) (fun n x h => rfl) (fun c po h => by obtain ⟨_, rfl, _⟩ := h; rfl) (fun n hn _ objs _ => item_vw hn objs _) (fun n x h => .cons (.ptL (ρ := id) 102 0 rfl) (.cons (Vw.ptOf rfl rfl rfl (.cons (Vw.row _ _ _ _ _ _ rfl rfl (by simp [graph_len]) (by rw [List.drop_zero, List.take_of_length_le (by simp [graph_len])])) .nil)) .nil)) ?_ ?_ ?_
  · rintro n hn _ hph cx hP ⟨l, hro⟩ hN hvk
    obtain ⟨P, ro, w0, Bin, N, R0, tk0, bl0, vk⟩ := cx
    have hP : P = Tryz.prog := hP
    have hN : N = Tryz.f99.ntmps := hN
    have hro : ro = some l := hro
    subst hP hN hro
    have hvkd := vkd_of hvk
    obtain ⟨b, i, hb, hi, hnn, hit, hpl⟩ := item_at hn
    rw [hit]
    have hnl : n < (placed f).length := by rw [placed_len, ← items_len]; exact hn
    refine aw_region ?_
    refine al_opc (k := 105) rfl rfl rfl ((hvk _).trans rfl) (opC_alloc rfl z129) ?_
    refine al_store_pt rfl rfl rfl s129 (ev_tmp rfl) (ev_tmp rfl) rfl rfl rfl rfl rfl rfl ?_
    refine al_nil ?_
    refine ⟨rfl, ?_⟩
    rintro cx hP ⟨l, hro⟩ hN hvk
    obtain ⟨P, ro, w0, Bin, N, R0, tk0, bl0, vk⟩ := cx
    have hP : P = Tryz.prog := hP
    have hN : N = Tryz.f99.ntmps := hN
    have hro : ro = some l := hro
    subst hP hN hro
    have hvkd := vkd_of hvk
    refine aw_block ?_
    refine aw_seq ?_
    refine aw_seq ?_
    refine aw_region ?_
    refine al_op rfl rfl rfl (opP_fieldAddr rfl (ev_tmp rfl) u129 rfl rfl s38 rfl) ?_
    refine al_op rfl rfl rfl (opP_fieldAddr rfl (ev_tmp rfl) u38 rfl rfl s3 rfl) ?_
    refine al_op rfl rfl rfl (opP_load_pt rfl u3 rfl (ev_tmp rfl) rfl rfl) ?_
    refine al_op rfl rfl rfl (opP_bin rfl (ev_tmp rfl) (ev_const rfl) rfl) ?_
    refine al_nil ?_
    refine aw_cond rfl (fun h6 => ?_) (fun h6 => ?_)
    · refine aw_exit ?_
      refine round_id [(102, .var [.v (.bool false)])] ⟨(), ?_, rfl⟩ ⟨rfl, trivial⟩ rfl
      rw [phiN_succ hpl, hph]; unfold phiOk; rw [show (f.blocks[b][i].op != 28) = true from h6]; rfl
    refine aw_skip ?_
    refine aw_seq ?_
    refine aw_region ?_
    refine al_op rfl rfl rfl (opP_load_prv rfl u47 rfl (ev_tmp rfl)) ?_
    refine al_op rfl rfl rfl (opP_fieldAddr rfl (ev_tmp rfl) u129 rfl rfl s3 rfl) ?_
    refine al_op rfl rfl rfl (opP_load_pt rfl u3 rfl (ev_tmp rfl) rfl rfl) ?_
    refine al_call (id) rfl rfl rfl (callOf_func rfl (.cons (ev_tmp rfl) (.cons (ev_tmp rfl) .nil))) (c165 (graphR f) b hgg (by omega) (by omega)) (.cons (.datn _) (.cons (.v _) .nil)) (fun _ h => absurd h (by simp)) rfl rfl rfl (fun p hp => .inr ((hvk _).trans (by simp at hp; subst hp; rfl))) ?_
    refine al_op rfl rfl rfl (opP_move rfl (ev_tmp rfl)) ?_
    refine al_op rfl rfl rfl (opP_extract rfl (ev_tmp rfl) rfl) ?_
    refine al_op rfl rfl rfl (opP_extract rfl (ev_tmp rfl) rfl) ?_
    refine al_op rfl rfl rfl (opP_assign rfl (ev_tmp rfl)) ?_
    refine al_op rfl rfl rfl (opP_assign rfl (ev_tmp rfl)) ?_
    refine al_nil ?_
    refine aw_seq ?_
    refine aw_region ?_
    have hbe := beforeN_le (graphR f) b (graphR f).length
    have hbe2 : (beforeR (graphR f) b).length < 1000000 := by unfold beforeR; omega
    refine al_op rfl rfl rfl (opP_move rfl (ev_tmp rfl)) ?_
    refine al_op rfl rfl rfl (opP_fieldAddr rfl (ev_tmp rfl) u129 rfl rfl s38 rfl) ?_
    refine al_op rfl rfl rfl (opP_fieldAddr rfl (ev_tmp rfl) u38 rfl rfl s22 rfl) ?_
    refine al_op rfl rfl rfl (opP_load_pt rfl u22 rfl (ev_tmp rfl) rfl rfl) ?_
    refine al_call (id) rfl rfl rfl (callOf_func rfl (.cons (ev_tmp rfl) (.cons (ev_tmp rfl) .nil))) (c112 (beforeR (graphR f) b) f.blocks[b][i].to hbe2) (.cons (Vw.row _ _ _ _ _ _ rfl rfl (by rw [ints_len]; omega) (by rw [List.drop_zero, List.take_of_length_le (by rw [ints_len]; omega)])) (.cons (.datn _) .nil)) (fun _ h => absurd h (by simp)) rfl rfl rfl (fun _ h => absurd h (by simp)) ?_
    refine al_op rfl rfl rfl (opP_not rfl (ev_tmp rfl)) ?_
    refine al_nil ?_
    refine aw_condS rfl (fun h7 => ?_) (fun h7 => ?_)
    · refine aw_skip ?_
      refine round_id [(102, .var [.v (.bool false)])] ⟨(), ?_, rfl⟩ ⟨rfl, trivial⟩ rfl
      rw [phiN_succ hpl, hph]; unfold phiOk
      have e : (f.blocks[b][i].to == beforeR (graphR f) b) = true := by simp at h7; rw [h7]; exact beq_self_eq_true _
      rw [e]; simp
    refine aw_seq ?_
    refine aw_region ?_
    refine al_store_pt rfl rfl rfl s4 (ev_tmp rfl) (ev_const rfl) rfl rfl rfl rfl rfl rfl ?_
    refine al_nil ?_
    refine aw_ret ?_
    refine round_id [(102, .var [.v (.bool false)])] ⟨rfl, rfl, ?_⟩ ⟨rfl, trivial⟩ rfl
    have e : (f.blocks[b][i].to == beforeR (graphR f) b) = false := by
      rw [beq_eq_false_iff_ne]; intro e; rw [e] at h7; simp at h7
    have e2 : phiN f (itemsA f).length = false := by
      unfold phiN
      refine List.all_eq_false.2 ⟨_, List.mem_of_getElem? (i := n) (by rw [List.getElem?_take, if_pos hn]; exact hpl), ?_⟩
      unfold phiOk
      rw [e, show (f.blocks[b][i].op != 28) = false from h6]; simp
    rw [rules_eq, e2]; simp
  · rintro _ hph
    refine aw_seq ?_
    refine aw_region ?_
    refine al_store_pt rfl rfl rfl s4 (ev_tmp rfl) (ev_const rfl) rfl rfl rfl rfl rfl rfl ?_
    refine al_nil ?_
    refine aw_ret ?_
    have hru : rulesR f = true := by rw [rules_eq, hall, hb0, hph]; rfl
    rw [hru]; exact ret_id _ (.cell rfl u4 rfl rfl rfl .nil) rfl trivial rfl rfl
  · rintro c po ⟨rfl, rfl, hru⟩
    refine aw_ret ?_
    rw [hru]; exact ret_id _ (.cell rfl u4 rfl rfl rfl .nil) rfl trivial rfl rfl
end Go.AL
namespace Go.AL
def argI (f : Fn) (b i : Nat) (x : Inst) (k : Nat) : Bool :=
  if x.op != 28 then thereI f (x.args.getD k 0) b i
  else !((reachI (graphR f) (-1)).getD (x.to.getD k 0).toNat false && !(thereI f (x.args.getD k 0) (x.to.getD k 0) (f.blocks.getD (x.to.getD k 0).toNat []).length))
def itemOk (f : Fn) (p : Inst × Nat × Nat) : Bool := !((reachI (graphR f) (-1)).getD p.2.1 false) || (List.range p.1.args.length).all (argI f p.2.1 p.2.2 p.1)
def definedN (f : Fn) (n : Nat) : Bool := ((placed f).take n).all (itemOk f)
theorem definedN_succ {f : Fn} {n : Nat} {p : Inst × Nat × Nat} (h : (placed f)[n]? = some p) : definedN f (n + 1) = (definedN f n && itemOk f p) := by
  obtain ⟨hn, e⟩ := List.getElem?_eq_some_iff.1 h
  rw [definedN, definedN, List.take_succ_eq_append_getElem hn, List.all_append]; simp [e]
theorem blocks_getD {f : Fn} {m : Nat} (hm : m < f.blocks.length) : (f.blocks.map instsD)[m]? = some (instsD (f.blocks.getD m [])) := by
  rw [blocks_get hm, List.getD_eq_getElem?_getD, List.getElem?_eq_getElem hm]; rfl
structure ArgsIn (f : Fn) : Prop where
  args : ∀ l ∈ f.blocks, ∀ x ∈ l, ∀ v ∈ x.args, 0 ≤ v ∧ v < countR f
  to : ∀ l ∈ f.blocks, ∀ x ∈ l, ∀ t ∈ x.to, 0 ≤ t ∧ t < f.blocks.length
  phi : ∀ l ∈ f.blocks, ∀ x ∈ l, x.op = 28 → x.args.length = x.to.length
end Go.AL
namespace Go.AL
open Go.Proofs
theorem e102 : Enters Tryz.prog 102 := enters_of Tryz.func102 (by kernel_rfl) (by kernel_rfl)
set_option maxRecDepth 100000 in
set_option maxHeartbeats 4000000 in
theorem c102 (f : Fn) (hf : f.Fits) (hs : total f.blocks ≤ 1000) (hne : ∀ l ∈ f.blocks, l ≠ []) (hgg : GG (graphR f)) (ha : ArgsIn f) : Ok Tryz.prog 102 [.dat none (fnD f)] [] (.v (.bool (definedN f (itemsA f).length))) [] := by
  refine ok_of e102 Tryz.func102 rfl (by kernel_rfl) ?_
  intro cx hP hro hN hvk
  obtain ⟨P, ro, w0, Bin, N, R0, tk0, bl0, vk⟩ := cx
  subst hP hro hN
  have hvkd := vkd_of hvk
  have hbf := hf.blocks
  have hgl := graph_len f
  have hg10 := hgg.small
  refine aw_seq ?_
  refine aw_region ?_
  refine al_opc (k := 101) rfl rfl rfl ((hvk _).trans rfl) (opC_box rfl (ev_tmp rfl) rfl) ?_
  refine al_opc (k := 102) rfl rfl rfl ((hvk _).trans rfl) (opC_alloc rfl z4) ?_
  refine al_nil ?_
  refine aw_seq ?_
  refine aw_region ?_
  refine al_op rfl rfl rfl (opP_load_ptn rfl u27 rfl s27 (ev_tmp rfl) rfl rfl) ?_
  refine al_call (id) rfl rfl rfl (callOf_func rfl (.cons (ev_tmp rfl) .nil)) (c170 f hf hs hne) (by repeat' (first | refine Vw.stDOf ?_ | refine Vw.ptOf rfl rfl rfl ?_ | refine Vw.prvOf ?_ | refine Vw.cloOf ?_ | constructor)) (fun _ h => absurd h (by simp)) rfl rfl rfl (fun p hp => .inr ((hvk _).trans (by simp at hp; rcases hp with rfl | rfl | rfl <;> rfl))) ?_
  refine al_opc (k := 103) rfl rfl rfl ((hvk _).trans rfl) (opC_alloc rfl z181) ?_
  refine al_store_pt rfl rfl rfl s181 (ev_tmp rfl) (ev_tmp rfl) rfl rfl rfl rfl rfl rfl ?_
  refine al_nil ?_
  refine aw_seq ?_
  refine aw_region ?_
  refine al_op rfl rfl rfl (opP_fieldAddr rfl (ev_tmp rfl) u181 rfl rfl s47 rfl) ?_
  refine al_op rfl rfl rfl (opP_load_pt rfl u47 rfl (ev_tmp rfl) rfl rfl) ?_
  refine al_call (id) rfl rfl rfl (callOf_func rfl (.cons (ev_tmp rfl) .nil)) (c137 (graphR f) hgg) (.cons (Vw.row _ _ _ _ _ _ rfl rfl (by simp [graph_len]) (by rw [List.drop_zero, List.take_of_length_le (by simp [graph_len])])) .nil) (fun _ h => absurd h (by simp)) rfl rfl rfl (fun p hp => .inr ((hvk _).trans (by simp at hp; subst hp; rfl))) ?_
  refine al_op rfl rfl rfl (opP_move rfl (ev_tmp rfl)) ?_
  refine al_op rfl rfl rfl (opP_extract rfl (ev_tmp rfl) rfl) ?_
  refine al_op rfl rfl rfl (opP_extract rfl (ev_tmp rfl) rfl) ?_
  refine al_opc (k := 104) rfl rfl rfl ((hvk _).trans rfl) (opC_alloc rfl z22) ?_
  refine al_store_pt rfl rfl rfl s22 (ev_tmp rfl) (ev_tmp rfl) rfl rfl rfl rfl rfl rfl ?_
  refine al_op rfl rfl rfl (opP_assign rfl (ev_tmp rfl)) ?_
  refine al_nil ?_
  refine aw_seq ?_
  refine aw_seq ?_
  refine aw_region ?_
  refine al_op rfl rfl rfl (opP_load_ptn rfl u27 rfl s27 (ev_tmp rfl) rfl rfl) ?_
  refine al_callR (id) rfl rfl rfl (callOf_func rfl (.cons (ev_tmp rfl) .nil)) (c97 f) (by repeat' (first | refine VwR.stDOf ?_ | refine VwR.stOf ?_ | refine VwR.cloOf ?_ | constructor)) rfl rfl rfl (fun p hp => (hvk _).trans (by simp at hp; subst hp; rfl)) ?_
  refine al_nil ?_
  refine aw_block ?_
  refine aw_range (α := Unit) (p := 20) (it160 f hf 97001 rfl) rfl rfl rfl 301 [102] [] [(1, .pt 101 0), (2, .pt 102 0), (3, .pt 103 0), (4, .pt 104 0)] [(1, .prv (fnA f)), (2, .pt 102 0), (3, .prv [.v (.int .i64 f.params.length), .dat none (.sl 1 (ints (blsI f))), .dat none (.sl 1 (ints (atsI f))), .dat none (.sl 1 ((graphR f).map rowD))]), (4, .prv [.dat none (.sl 1 (ints (listI (reachI (graphR f) (-1)))))])] [(97001, .var (fnA f)), (101, .var (fnA f)), (103, .var [.v (.int .i64 f.params.length), .row 170001 1 0 (total f.blocks), .row 170002 1 0 (total f.blocks), .row 138001 1 0 f.blocks.length]), (104, .var [.row 202001 1 0 (listI (reachI (graphR f) (-1))).length]), (170001, .row 1 (ints (blsI f))), (170002, .row 1 (ints (atsI f))), (138001, .row 1 ((graphR f).map rowD)), (202001, .row 1 (ints (listI (reachI (graphR f) (-1)))))] (fun n _ => [(102, .var [.v (.bool false)])]) (fun n _ => definedN f n = true) (fun c po => c = .ret ∧ po = [(102, .var [.v (.bool false)])] ∧ definedN f (itemsA f).length = false) (fun n => itemOf f n) () rfl rfl ((hvk _).trans rfl) (fun k hk => hvkd [] rfl k (inL_iff.1 hk)) (fun k hk => hvkd [160001] rfl k (inL_iff.1 hk)) rfl rfl rfl rfl (by repeat (first | exact trivial | refine ⟨rfl, ?_⟩)) rfl rfl (by repeat (first | exact trivial | refine ⟨rfl, ?_⟩)) (by repeat (first | exact trivial | refine ⟨rfl, ?_⟩)) (fun objs h => has_one h) (fun n x h => rfl) (fun c po h => by obtain ⟨_, rfl, _⟩ := h; rfl) (fun n x h => rfl) (fun c po h => by obtain ⟨_, rfl, _⟩ := h; rfl) (fun n hn _ objs _ => item_vw hn objs _) (fun n x h => .cons (Vw.ptOf rfl rfl rfl (.cons (.datn _) (.cons (.v _) (.cons (.datn _) (.cons (.datn _) .nil))))) (.cons (.ptL (ρ := id) 102 0 rfl) (.cons (Vw.ptOf rfl rfl rfl (.cons (.v _) (.cons (Vw.row _ _ _ _ _ _ rfl rfl (by rw [ints_len]; simp [blsI, placed_len]) (by rw [List.drop_zero, List.take_of_length_le (by rw [ints_len]; simp [blsI, placed_len])])) (.cons (Vw.row _ _ _ _ _ _ rfl rfl (by rw [ints_len]; simp [atsI, placed_len]) (by rw [List.drop_zero, List.take_of_length_le (by rw [ints_len]; simp [atsI, placed_len])])) (.cons (Vw.row _ _ _ _ _ _ rfl rfl (by simp [graph_len]) (by rw [List.drop_zero, List.take_of_length_le (by simp [graph_len])])) .nil))))) (.cons (Vw.ptOf rfl rfl rfl (.cons (Vw.row _ _ _ _ _ _ rfl rfl (by rw [ints_len]; simp [Nat.le_refl]) (by rw [List.drop_zero, List.take_of_length_le (by rw [ints_len]; simp [Nat.le_refl])])) .nil)) .nil)))) ?_ ?_ ?_
  · rintro n hn _ hdf cx hP ⟨l, hro⟩ hN hvk
    obtain ⟨P, ro, w0, Bin, N, R0, tk0, bl0, vk⟩ := cx
    have hP : P = Tryz.prog := hP
    have hN : N = Tryz.f102.ntmps := hN
    have hro : ro = some l := hro
    subst hP hN hro
    have hvkd := vkd_of hvk
    obtain ⟨b, i, hb, hi, hnn, hit, hpl⟩ := item_at hn
    rw [hit]
    have hnl : n < (placed f).length := by rw [placed_len, ← items_len]; exact hn
    have hlm := List.getElem_mem hb
    have hxm := List.getElem_mem hi
    have hxf := hf.inst _ hlm _ hxm
    have hxa := hxf.args
    refine aw_region ?_
    refine al_opc (k := 105) rfl rfl rfl ((hvk _).trans rfl) (opC_alloc rfl z129) ?_
    refine al_store_pt rfl rfl rfl s129 (ev_tmp rfl) (ev_tmp rfl) rfl rfl rfl rfl rfl rfl ?_
    refine al_nil ?_
    refine ⟨rfl, ?_⟩
    rintro cx hP ⟨l, hro⟩ hN hvk
    obtain ⟨P, ro, w0, Bin, N, R0, tk0, bl0, vk⟩ := cx
    have hP : P = Tryz.prog := hP
    have hN : N = Tryz.f102.ntmps := hN
    have hro : ro = some l := hro
    subst hP hN hro
    have hvkd := vkd_of hvk
    refine aw_block ?_
    refine aw_seq ?_
    refine aw_seq ?_
    refine aw_region ?_
    refine al_op rfl rfl rfl (opP_load_prv rfl u22 rfl (ev_tmp rfl)) ?_
    refine al_op rfl rfl rfl (opP_fieldAddr rfl (ev_tmp rfl) u129 rfl rfl s3 rfl) ?_
    refine al_op rfl rfl rfl (opP_load_pt rfl u3 rfl (ev_tmp rfl) rfl rfl) ?_
    refine al_call (id) rfl rfl rfl (callOf_func rfl (.cons (ev_tmp rfl) (.cons (ev_tmp rfl) .nil))) (c171 (listI (reachI (graphR f) (-1))) b (by have := listN_le (reachI (graphR f) (-1)) 10; unfold listI; omega)) (by repeat' (first | refine Vw.stDOf ?_ | refine Vw.ptOf rfl rfl rfl ?_ | refine Vw.prvOf ?_ | refine Vw.cloOf ?_ | constructor)) (fun _ h => absurd h (by simp)) rfl rfl rfl (fun _ h => absurd h (by simp)) ?_
    refine al_op rfl rfl rfl (opP_not rfl (ev_tmp rfl)) ?_
    refine al_nil ?_
    refine aw_cond rfl (fun h1 => ?_) (fun h1 => ?_)
    · refine aw_exit ?_
      refine round_id [(102, .var [.v (.bool false)])] ⟨(), ?_, rfl⟩ ⟨rfl, trivial⟩ rfl
      rw [definedN_succ hpl, hdf]; unfold itemOk; rw [show (reachI (graphR f) (-1)).getD b false = false by rw [← hasR_list (by omega)]; simpa using h1]; rfl
    have hrb : (reachI (graphR f) (-1)).getD b false = true := by rw [← hasR_list (by omega)]; simpa using h1
    refine aw_skip ?_
    refine aw_seq ?_
    refine aw_region ?_
    refine al_op rfl rfl rfl (opP_fieldAddr rfl (ev_tmp rfl) u129 rfl rfl s38 rfl) ?_
    refine al_op rfl rfl rfl (opP_fieldAddr rfl (ev_tmp rfl) u38 rfl rfl s22 rfl) ?_
    refine al_op rfl rfl rfl (opP_load_pt rfl u22 rfl (ev_tmp rfl) rfl rfl) ?_
    refine al_op rfl rfl rfl (opP_len rfl u22 (ev_tmp rfl) (by first | exact lenA_ints | exact lenA_map | rfl)) ?_
    refine al_op rfl rfl rfl (opP_move rfl (ev_const rfl)) ?_
    refine al_nil ?_
    refine aw_block ?_
    refine aw_loop' (α := Nat) (fun k => [(1, .prv (fnA f)), (2, .pt 102 0), (3, .prv [.v (.int .i64 f.params.length), .dat none (.sl 1 (ints (blsI f))), .dat none (.sl 1 (ints (atsI f))), .dat none (.sl 1 ((graphR f).map rowD))]), (4, .prv [.dat none (.sl 1 (ints (listI (reachI (graphR f) (-1)))))]), (6, .pt 105 0), (28, .dat none (.sl 1 (ints f.blocks[b][i].args))), (29, .v (.int .i64 f.blocks[b][i].args.length)), (30, .v (.int .i64 k))]) (fun k => [(102, .var [.v (.bool false)]), (105, .var (instA f.blocks[b][i] ++ [.v (.int .i64 ((f.params.length + n : Nat) : Int)), .v (.int .i64 b), .v (.int .i64 i)]))]) (fun k => k ≤ f.blocks[b][i].args.length ∧ ((List.range k).all (argI f b i f.blocks[b][i])) = true) (fun k => f.blocks[b][i].args.length - k) 0 ⟨Nat.zero_le _, rfl⟩ id (Fit.of ⟨rfl, rfl, trivial⟩ ⟨rfl, rfl, rfl, rfl, rfl, rfl, rfl, rfl, trivial⟩ rfl rfl) ?_
    rintro k ⟨hk, hall⟩
    refine aw_seq ?_
    refine aw_region ?_
    refine al_op rfl rfl rfl (opP_bin rfl (ev_tmp rfl) (ev_tmp rfl) rfl) ?_
    refine al_nil ?_
    refine aw_seq ?_
    refine aw_condS rfl (fun h2 => ?_) (fun h2 => ?_)
    · refine aw_exit ?_
      refine round_id [(102, .var [.v (.bool false)])] ⟨(), ?_, rfl⟩ ⟨rfl, trivial⟩ rfl
      have e : k = f.blocks[b][i].args.length := by simp at h2; omega
      rw [e] at hall
      rw [definedN_succ hpl, hdf]; unfold itemOk; rw [hall]; simp
    have hkl : k < f.blocks[b][i].args.length := by simpa using h2
    have hga : f.blocks[b][i].args.getD k 0 = f.blocks[b][i].args[k] := by simp [hkl]
    have hva := ha.args _ hlm _ hxm _ (List.getElem_mem hkl)
    rw [← hga] at hva
    refine aw_skip ?_
    refine aw_seq ?_
    refine aw_block ?_
    refine aw_seq ?_
    refine aw_region ?_
    refine al_op rfl rfl rfl (opP_move rfl (ev_tmp rfl)) ?_
    refine al_op rfl rfl rfl (opP_index_dat rfl u22 s3 (ev_tmp rfl) (ev_tmp rfl) (fun _ => Int.natCast_nonneg _) (fun _ => ints_getD hkl)) ?_
    refine al_op rfl rfl rfl (opP_load_pr rfl u3 rfl (ev_tmp rfl)) ?_
    refine al_op rfl rfl rfl (opP_assign rfl (ev_tmp rfl)) ?_
    refine al_op rfl rfl rfl (opP_assign rfl (ev_tmp rfl)) ?_
    refine al_nil ?_
    refine aw_seq ?_
    refine aw_seq ?_
    refine aw_region ?_
    refine al_op rfl rfl rfl (opP_fieldAddr rfl (ev_tmp rfl) u129 rfl rfl s38 rfl) ?_
    refine al_op rfl rfl rfl (opP_fieldAddr rfl (ev_tmp rfl) u38 rfl rfl s3 rfl) ?_
    refine al_op rfl rfl rfl (opP_load_pt rfl u3 rfl (ev_tmp rfl) rfl rfl) ?_
    refine al_op rfl rfl rfl (opP_bin rfl (ev_tmp rfl) (ev_const rfl) rfl) ?_
    refine al_nil ?_
    refine aw_cond rfl (fun h3 => ?_) (fun h3 => ?_)
    · refine aw_seq ?_
      refine aw_seq ?_
      refine aw_region ?_
      refine al_op rfl rfl rfl (opP_load_prvn rfl u181 rfl s181 (ev_tmp rfl) rfl) ?_
      refine al_op rfl rfl rfl (opP_move rfl (ev_tmp rfl)) ?_
      refine al_op rfl rfl rfl (opP_fieldAddr rfl (ev_tmp rfl) u129 rfl rfl s3 rfl) ?_
      refine al_op rfl rfl rfl (opP_load_pt rfl u3 rfl (ev_tmp rfl) rfl rfl) ?_
      refine al_op rfl rfl rfl (opP_fieldAddr rfl (ev_tmp rfl) u129 rfl rfl s3 rfl) ?_
      refine al_op rfl rfl rfl (opP_load_pt rfl u3 rfl (ev_tmp rfl) rfl rfl) ?_
      refine al_call (id) rfl rfl rfl (callOf_func rfl (.cons (ev_tmp rfl) (.cons (ev_tmp rfl) (.cons (ev_tmp rfl) (.cons (ev_tmp rfl) .nil))))) (c172 f (f.blocks[b][i].args.getD k 0) b i hf hgg hva.1 hva.2 ⟨by omega, by omega⟩) (by repeat' (first | refine Vw.stDOf ?_ | refine Vw.ptOf rfl rfl rfl ?_ | refine Vw.prvOf ?_ | refine Vw.cloOf ?_ | constructor)) (fun _ h => absurd h (by simp)) rfl rfl rfl (fun _ h => absurd h (by simp)) ?_
      refine al_op rfl rfl rfl (opP_not rfl (ev_tmp rfl)) ?_
      refine al_nil ?_
      refine aw_condS rfl (fun h4 => ?_) (fun h4 => ?_)
      · have harg : argI f b i f.blocks[b][i] k = true := by unfold argI; rw [if_pos (show (f.blocks[b][i].op != 28) = true from h3)]; simpa using h4
        refine aw_skip ?_
        refine aw_exit ?_
        refine aw_region ?_
        refine al_op rfl rfl rfl (opP_bin rfl (ev_tmp rfl) (ev_const rfl) rfl) ?_
        refine al_op rfl rfl rfl (opP_move rfl (ev_tmp rfl)) ?_
        refine al_nil ?_
        refine ⟨k + 1, id, ⟨hkl, ?_⟩, by omega, Fit.of ⟨rfl, rfl, trivial⟩ ⟨rfl, rfl, rfl, rfl, rfl, rfl, rfl, by rw [← wrapS (by omega)]; rfl, trivial⟩ rfl rfl⟩
        rw [List.range_succ, List.all_append, hall]; simp [harg]
      have harg : argI f b i f.blocks[b][i] k = false := by unfold argI; rw [if_pos (show (f.blocks[b][i].op != 28) = true from h3)]; simpa using h4
      refine aw_seq ?_
      refine aw_region ?_
      refine al_store_pt rfl rfl rfl s4 (ev_tmp rfl) (ev_const rfl) rfl rfl rfl rfl rfl rfl ?_
      refine al_nil ?_
      refine aw_ret ?_
      refine round_id [(102, .var [.v (.bool false)])] ⟨rfl, rfl, ?_⟩ ⟨rfl, trivial⟩ rfl
      have e1 : ((List.range f.blocks[b][i].args.length).all (argI f b i f.blocks[b][i])) = false := List.all_eq_false.2 ⟨k, List.mem_range.2 hkl, by rw [harg]; simp⟩
      unfold definedN
      refine List.all_eq_false.2 ⟨_, List.mem_of_getElem? (i := n) (by rw [List.getElem?_take, if_pos hn]; exact hpl), ?_⟩
      unfold itemOk
      rw [hrb, e1]; simp
    have hop : f.blocks[b][i].op = 28 := by simpa using h3
    have hkt : k < f.blocks[b][i].to.length := by rw [← ha.phi _ hlm _ hxm hop]; exact hkl
    have hgt : f.blocks[b][i].to.getD k 0 = f.blocks[b][i].to[k] := by simp [hkt]
    have htk := ha.to _ hlm _ hxm _ (List.getElem_mem hkt)
    rw [← hgt] at htk
    have hti : (f.blocks.map instsD)[(f.blocks[b][i].to.getD k 0).toNat]? = some (instsD (f.blocks.getD (f.blocks[b][i].to.getD k 0).toNat [])) := blocks_getD (by omega)
    have hrt : hasR (listI (reachI (graphR f) (-1))) (f.blocks[b][i].to.getD k 0) = (reachI (graphR f) (-1)).getD (f.blocks[b][i].to.getD k 0).toNat false := by rw [← hasR_list (b := (f.blocks[b][i].to.getD k 0).toNat) (by omega)]; congr 1; omega
    refine aw_skip ?_
    refine aw_seq ?_
    refine aw_region ?_
    refine al_op rfl rfl rfl (opP_fieldAddr rfl (ev_tmp rfl) u129 rfl rfl s38 rfl) ?_
    refine al_op rfl rfl rfl (opP_fieldAddr rfl (ev_tmp rfl) u38 rfl rfl s22 rfl) ?_
    refine al_op rfl rfl rfl (opP_load_pt rfl u22 rfl (ev_tmp rfl) rfl rfl) ?_
    refine al_op rfl rfl rfl (opP_move rfl (ev_tmp rfl)) ?_
    refine al_op rfl rfl rfl (opP_index_dat rfl u22 s3 (ev_tmp rfl) (ev_tmp rfl) (fun _ => Int.natCast_nonneg _) (fun _ => ints_getD hkt)) ?_
    refine al_op rfl rfl rfl (opP_load_pr rfl u3 rfl (ev_tmp rfl)) ?_
    refine al_op rfl rfl rfl (opP_assign rfl (ev_tmp rfl)) ?_
    refine al_nil ?_
    refine aw_seq ?_
    refine aw_draw mixed ?_
    apply ad_phase' [⟨0, 53, _, [], []⟩, ⟨1, 54, _, [], []⟩, ⟨2, 55, _, [0, 1], []⟩, ⟨3, 56, _, [0, 1, 2], []⟩, ⟨4, 57, _, [0, 1, 2, 3], []⟩, ⟨5, 58, _, [0, 1, 2, 3], []⟩, ⟨6, 59, _, [0, 1, 2, 3], []⟩, ⟨7, 60, _, [0, 1, 2, 3], []⟩, ⟨8, 61, _, [0, 1, 2, 3, 7], []⟩, ⟨9, 62, _, [0, 1, 2, 3], []⟩, ⟨10, 63, _, [0, 1, 2, 3, 7, 8, 9], []⟩, ⟨11, 64, _, [0, 1, 2, 3, 7, 8, 9, 10], []⟩, ⟨12, 65, _, [0, 1, 2, 3, 7, 8, 9, 10, 11], []⟩, ⟨13, 66, _, [0, 1, 2, 3, 4, 5, 6, 7, 8, 9, 10, 11, 12], []⟩, ⟨14, 67, _, [0, 1, 2, 3, 4, 5, 6, 7, 8, 9, 10, 11, 12, 13], []⟩, ⟨15, 68, _, [0, 1, 2, 3, 4, 5, 6, 7, 8, 9, 10, 11, 12, 13, 14], []⟩] [] (fuelT := 0)
    · skip
      refine .cons rfl (stepD_op rfl (opP_load_prv rfl u22 rfl (ev_tmp rfl))) ?_
      refine .cons rfl (stepD_op rfl (opP_move rfl (ev_tmp rfl))) ?_
      refine .cons rfl (stepD_call (id) rfl (callOf_func rfl (.cons (ev_tmp rfl) (.cons (ev_tmp rfl) .nil))) (c171 (listI (reachI (graphR f) (-1))) (f.blocks[b][i].to.getD k 0) (by have := listN_le (reachI (graphR f) (-1)) 10; unfold listI; omega)) (by repeat' (first | refine Vw.stDOf ?_ | refine Vw.ptOf rfl rfl rfl ?_ | refine Vw.prvOf ?_ | refine Vw.cloOf ?_ | constructor)) rfl rfl rfl (fun _ => rfl) (fun _ => rfl)) ?_
      refine .cons rfl (stepD_op rfl (opP_move rfl (ev_tmp rfl))) ?_
      refine .cons rfl (stepD_opg rfl rfl rfl rfl (opP_load_prvn rfl u181 rfl s181 (ev_tmp rfl) rfl)) ?_
      refine .cons rfl (stepD_opg rfl rfl rfl rfl (opP_move rfl (ev_tmp rfl))) ?_
      refine .cons rfl (stepD_opg rfl rfl rfl rfl (opP_move rfl (ev_tmp rfl))) ?_
      refine .cons rfl (stepD_opg rfl rfl rfl rfl (opP_fieldAddr rfl (ev_tmp rfl) u27 rfl rfl s25 rfl)) ?_
      refine .cons rfl (stepD_opg rfl rfl rfl rfl (opP_load_prv rfl u25 rfl (ev_when rfl id))) ?_
      refine .cons rfl (stepD_opg rfl rfl rfl rfl (opP_move rfl (ev_tmp rfl))) ?_
      refine .cons rfl (stepD_opg rfl rfl rfl rfl (opP_index_dat rfl u25 s35 (ev_when rfl id) (ev_when rfl id) (fun _ => htk.1) (fun _ => hti))) ?_
      refine .cons rfl (stepD_opg rfl rfl rfl rfl (opP_load_pr rfl u35 rfl (ev_when rfl id))) ?_
      refine .cons rfl (stepD_opg rfl rfl rfl rfl (opP_len rfl u35 (ev_when rfl id) (by first | exact lenA_ints | exact lenA_map | rfl))) ?_
      refine .cons rfl (stepD_callg rfl rfl rfl rfl (callOf_func rfl (.cons (ev_when rfl id) (.cons (ev_when rfl id) (.cons (ev_when rfl id) (.cons (ev_when rfl id) .nil))))) (fun gd => c172 f (f.blocks[b][i].args.getD k 0) (f.blocks[b][i].to.getD k 0) (f.blocks.getD (f.blocks[b][i].to.getD k 0).toNat []).length hf hgg hva.1 hva.2 htk) (fun gd => (by repeat' (first | refine Vw.stDOf ?_ | refine Vw.ptOf rfl rfl rfl ?_ | refine Vw.prvOf ?_ | refine Vw.cloOf ?_ | constructor))) rfl (fun _ => rfl)) ?_
      refine .cons rfl (stepD_opg rfl rfl rfl rfl (opP_not rfl (ev_when rfl id))) ?_
      refine .cons rfl (stepD_op rfl (opP_and rfl (ev_tmp rfl) (ev_when rfl id))) ?_
      exact .nil
    · exact .no rfl (.no rfl (.no rfl (.no rfl (.no rfl (.no rfl (.no rfl (.no rfl (.no rfl (.no rfl (.no rfl (.no rfl (.no rfl (.no rfl (.no rfl (.no rfl (.nil))))))))))))))))
    · rfl
    · rfl
    · rfl
    · rfl
    · intro c s h; first | exact h | (obtain ⟨_, _, h, _⟩ := h; exact h)
    · exact hvkd _ rfl
    · rfl
    refine ad_done rfl ?_
    refine aw_condS rfl (fun h5 => ?_) (fun h5 => ?_)
    · have harg : argI f b i f.blocks[b][i] k = true := by unfold argI; rw [if_neg (by rw [show (f.blocks[b][i].op != 28) = false from h3]; simp), ← hrt, show _ = false from h5]; rfl
      refine aw_skip ?_
      refine aw_region ?_
      refine al_op rfl rfl rfl (opP_bin rfl (ev_tmp rfl) (ev_const rfl) rfl) ?_
      refine al_op rfl rfl rfl (opP_move rfl (ev_tmp rfl)) ?_
      refine al_nil ?_
      refine ⟨k + 1, id, ⟨hkl, ?_⟩, by omega, Fit.of ⟨rfl, rfl, trivial⟩ ⟨rfl, rfl, rfl, rfl, rfl, rfl, rfl, by rw [← wrapS (by omega)]; rfl, trivial⟩ rfl rfl⟩
      rw [List.range_succ, List.all_append, hall]; simp [harg]
    have harg : argI f b i f.blocks[b][i] k = false := by unfold argI; rw [if_neg (by rw [show (f.blocks[b][i].op != 28) = false from h3]; simp), ← hrt, show _ = true from h5]; rfl
    refine aw_seq ?_
    refine aw_region ?_
    refine al_store_pt rfl rfl rfl s4 (ev_tmp rfl) (ev_const rfl) rfl rfl rfl rfl rfl rfl ?_
    refine al_nil ?_
    refine aw_ret ?_
    refine round_id [(102, .var [.v (.bool false)])] ⟨rfl, rfl, ?_⟩ ⟨rfl, trivial⟩ rfl
    have e1 : ((List.range f.blocks[b][i].args.length).all (argI f b i f.blocks[b][i])) = false := List.all_eq_false.2 ⟨k, List.mem_range.2 hkl, by rw [harg]; simp⟩
    unfold definedN
    refine List.all_eq_false.2 ⟨_, List.mem_of_getElem? (i := n) (by rw [List.getElem?_take, if_pos hn]; exact hpl), ?_⟩
    unfold itemOk
    rw [hrb, e1]; simp
  · rintro _ hdf
    refine aw_seq ?_
    refine aw_region ?_
    refine al_store_pt rfl rfl rfl s4 (ev_tmp rfl) (ev_const rfl) rfl rfl rfl rfl rfl rfl ?_
    refine al_nil ?_
    refine aw_ret ?_
    rw [hdf]; exact ret_id _ (.cell rfl u4 rfl rfl rfl .nil) rfl trivial rfl rfl
  · rintro c po ⟨rfl, rfl, hru⟩
    refine aw_ret ?_
    rw [hru]; exact ret_id _ (.cell rfl u4 rfl rfl rfl .nil) rfl trivial rfl rfl
end Go.AL
namespace Go.AL
theorem way_not {g : List (List Int)} {a v : Int} (h : Way g (-1) v) (hn : ∀ v, Way g (-1) v → v ≠ a) : Way g a v := by
  induction h with
  | zero h => exact .zero (hn 0 (.zero h))
  | step h ht hw ih => exact .step ih ht (hn _ (.step h ht hw))
theorem dom_law {g : List (List Int)} (hg : GG g) {a b : Int} (ha : 0 ≤ a ∧ a < g.length) (hb : 0 ≤ b ∧ b < g.length) (hr : (reachI g (-1)).getD b.toNat false = true) : (!(domE g a b) && dominatesR g a b) = dominatesR g a b := by
  have hd : domE g a b = !((reachI g (-1)).getD a.toNat false) := by
    unfold domE
    simp only [List.any_cons, List.any_nil, hr, Bool.not_true, Bool.or_false]
  rw [hd]
  cases hra : (reachI g (-1)).getD a.toNat false with
  | true => simp
  | false =>
    simp only [Bool.not_false, Bool.not_true, Bool.false_and]
    symm
    unfold dominatesR
    have hab : (a == b) = false := by
      rw [beq_eq_false_iff_ne]; intro e; subst e; rw [hr] at hra; cases hra
    rw [hab, Bool.false_or]
    have h1 : Way g (-1) b := by
      have := (reached_way (w := -1) hg.toGOk b.toNat).1 (by rw [← reachI_eq hg]; exact hr)
      rwa [show ((b.toNat : Nat) : Int) = b by omega] at this
    have h2 : Way g a b := way_not h1 fun v hv e => by
      subst e
      have : (reachI g (-1)).getD v.toNat false = true := by
        rw [reachI_eq hg]
        refine (reached_way (w := -1) hg.toGOk v.toNat).2 ?_
        rwa [show ((v.toNat : Nat) : Int) = v by omega]
      rw [this] at hra; cases hra
    have h3 : (reachedR g a).getD b.toNat false = true := (reached_way (w := a) hg.toGOk b.toNat).2 (by rwa [show ((b.toNat : Nat) : Int) = b by omega])
    rw [h3]; rfl
theorem where_low : ∀ (bs : List (List Inst)) (n b0 : Nat) (v : Int), v < n → whereGo bs n b0 v = (-1, -1)
  | [], _, _, _, _ => rfl
  | l :: r, n, b0, v, h => by
    simp only [whereGo]
    rw [if_neg (by simp; omega)]
    exact where_low r _ _ v (by omega)
theorem where_placed {f : Fn} {b i : Nat} (hb : b < f.blocks.length) (hi : i < f.blocks[b].length) : whereR f ((numberR f b + i : Nat) : Int) = ((b : Int), (i : Int)) := by
  have mono : ∀ j k : Nat, j ≤ k → k ≤ f.blocks.length → numberR f j ≤ numberR f k := by
    intro j k hjk
    induction k with
    | zero => intro _; rw [show j = 0 by omega]; exact Nat.le_refl _
    | succ k ih =>
      intro hk
      by_cases e : j = k + 1
      · rw [e]; exact Nat.le_refl _
      · have := ih (by omega) (by omega)
        rw [numberR_succ (by omega)]; omega
  have go : ∀ j : Nat, j ≤ b → whereGo (f.blocks.drop j) (numberR f j) j ((numberR f b + i : Nat) : Int) = ((b : Int), (i : Int)) := by
    have key : ∀ d j : Nat, b - j = d → j ≤ b → whereGo (f.blocks.drop j) (numberR f j) j ((numberR f b + i : Nat) : Int) = ((b : Int), (i : Int)) := by
      intro d
      induction d with
      | zero =>
        intro j h1 h2
        have e : j = b := by omega
        subst e
        rw [where_drop hb, if_pos (by simp; omega)]
        rw [Prod.mk.injEq]; exact ⟨rfl, by omega⟩
      | succ d ih =>
        intro j h1 h2
        have hm := mono (j + 1) b (by omega) (by omega)
        rw [numberR_succ (show j < f.blocks.length by omega)] at hm
        rw [where_drop (show j < f.blocks.length by omega), if_neg (by simp; omega)]
        exact ih (j + 1) (by omega) (by omega)
    exact fun j hj => key _ j rfl hj
  have := go 0 (by omega)
  unfold whereR
  have e : numberR f 0 = f.params.length := by simp [numberR, total]
  rw [e, List.drop_zero] at this
  exact this
theorem there_law {f : Fn} (hgg : GG (graphR f)) {v b a a' : Int} (h0 : 0 ≤ v) (hv : v < countR f) (hb : 0 ≤ b ∧ b < f.blocks.length) (hr : (reachI (graphR f) (-1)).getD b.toNat false = true)
    (ha : a = a' ∧ 0 ≤ a ∨ a' = -1 ∧ a = (f.blocks.getD b.toNat []).length) : thereI f v b a = thereR f (graphR f) v b a' := by
  have hgl := graph_len f
  unfold thereI thereR
  by_cases hp : v < f.params.length
  · rw [if_pos hp, show whereR f v = (-1, -1) from where_low _ _ _ _ hp]; rfl
  · rw [if_neg hp]
    obtain ⟨x, c, i, hpl⟩ := placed_some (f := f) (n := (v - f.params.length).toNat) (by unfold countR at hv; omega)
    obtain ⟨hcb, hci, _, hn⟩ := placed_in hpl
    have hw : whereR f v = ((c : Int), (i : Int)) := by
      rw [← where_placed hcb hci]
      congr 1
      unfold numberR; omega
    rw [hpl, hw]
    simp only
    rw [if_neg (show ¬ ((c : Int) < 0) by omega)]
    by_cases hcb' : (c : Int) = b
    · rw [if_pos (by rw [beq_iff_eq]; exact hcb'), if_pos (by rw [beq_iff_eq]; exact hcb')]
      rcases ha with ⟨rfl, ha⟩ | ⟨rfl, rfl⟩
      · rw [decide_eq_false (show ¬ a < 0 by omega), Bool.false_or]
      · have e : b.toNat = c := by omega
        rw [e, List.getD_eq_getElem?_getD, List.getElem?_eq_getElem hcb]
        simp; omega
    · rw [if_neg (by rw [beq_iff_eq]; exact hcb'), if_neg (by rw [beq_iff_eq]; exact hcb')]
      exact dom_law hgg ⟨by omega, by omega⟩ ⟨hb.1, by omega⟩ hr
theorem arg_law {f : Fn} (hgg : GG (graphR f)) (ha : ArgsIn f) {b i k : Nat} (hb : b < f.blocks.length) (hi : i < f.blocks[b].length) (hk : k < f.blocks[b][i].args.length) (hr : (reachI (graphR f) (-1)).getD b false = true) :
    argI f b i f.blocks[b][i] k = argThere f b i f.blocks[b][i] k := by
  have hlm := List.getElem_mem hb
  have hxm := List.getElem_mem hi
  have hga : f.blocks[b][i].args.getD k 0 = f.blocks[b][i].args[k] := by simp [hk]
  have hva := ha.args _ hlm _ hxm _ (List.getElem_mem hk)
  rw [← hga] at hva
  unfold argI argThere
  by_cases hop : f.blocks[b][i].op = 28
  · rw [if_neg (by simp [hop]), if_pos (by simp [hop])]
    have hkt : k < f.blocks[b][i].to.length := by rw [← ha.phi _ hlm _ hxm hop]; exact hk
    have hgt : f.blocks[b][i].to.getD k 0 = f.blocks[b][i].to[k] := by simp [hkt]
    have htk := ha.to _ hlm _ hxm _ (List.getElem_mem hkt)
    rw [← hgt] at htk
    rw [← reachI_eq hgg]
    cases hrt : (reachI (graphR f) (-1)).getD (f.blocks[b][i].to.getD k 0).toNat false with
    | false => rfl
    | true => rw [there_law hgg hva.1 hva.2 htk hrt (.inr ⟨rfl, rfl⟩)]
  · rw [if_pos (by simp [hop]), if_neg (by simp [hop])]
    exact there_law hgg hva.1 hva.2 ⟨by omega, by omega⟩ (by rw [Int.toNat_natCast]; exact hr) (.inl ⟨rfl, by omega⟩)
theorem defined_eq {f : Fn} (hgg : GG (graphR f)) (ha : ArgsIn f) : definedN f (itemsA f).length = statedR f := by
  unfold definedN
  rw [List.take_of_length_le (by rw [placed_len, items_len]; omega), Bool.eq_iff_iff]
  have item : ∀ (b i : Nat) (hb : b < f.blocks.length) (hi : i < f.blocks[b].length), itemOk f (f.blocks[b][i], b, i) = (!((reachedR (graphR f) (-1)).getD b false) || instThere f b i f.blocks[b][i]) := by
    intro b i hb hi
    unfold itemOk instThere
    simp only
    rw [← reachI_eq hgg]
    cases hr : (reachI (graphR f) (-1)).getD b false with
    | false => rfl
    | true =>
      congr 1
      rw [Bool.eq_iff_iff]
      simp only [List.all_eq_true, List.mem_range]
      exact ⟨fun h k hk => by rw [← arg_law hgg ha hb hi hk hr]; exact h k hk, fun h k hk => by rw [arg_law hgg ha hb hi hk hr]; exact h k hk⟩
  constructor
  · intro h
    rw [List.all_eq_true] at h
    unfold statedR
    rw [List.all_eq_true]
    intro b hb
    have hb' := List.mem_range.1 hb
    unfold blockThere
    have e : f.blocks.getD b [] = f.blocks[b] := by simp [hb']
    rw [e]
    cases hr : (reachedR (graphR f) (-1)).getD b false with
    | false => rfl
    | true =>
      simp only [Bool.not_true, Bool.false_or]
      rw [List.all_eq_true]
      intro i hi
      have hi' := List.mem_range.1 hi
      have e2 : f.blocks[b].getD i default = f.blocks[b][i] := by simp [hi']
      rw [e2]
      have := h _ (List.mem_of_getElem? (placed_get hb' hi'))
      rw [item b i hb' hi', hr] at this
      simpa using this
  · intro h
    rw [List.all_eq_true]
    intro p hp
    obtain ⟨n, hn, rfl⟩ := List.getElem_of_mem hp
    obtain ⟨hb, hi, e1, _⟩ := placed_in (f := f) (n := n) (x := ((placed f)[n]).1) (b := ((placed f)[n]).2.1) (i := ((placed f)[n]).2.2) (List.getElem?_eq_getElem hn)
    have e3 : (placed f)[n] = (f.blocks[((placed f)[n]).2.1][((placed f)[n]).2.2], ((placed f)[n]).2.1, ((placed f)[n]).2.2) := by rw [← e1]
    rw [e3, item _ _ hb hi]
    unfold statedR at h
    rw [List.all_eq_true] at h
    have h2 := h _ (List.mem_range.2 hb)
    unfold blockThere at h2
    have e : f.blocks.getD ((placed f)[n]).2.1 [] = f.blocks[((placed f)[n]).2.1] := by simp [hb]
    rw [e] at h2
    rw [Bool.or_eq_true] at h2 ⊢
    refine h2.imp id fun h3 => ?_
    rw [List.all_eq_true] at h3
    have := h3 _ (List.mem_range.2 hi)
    have e2 : f.blocks[((placed f)[n]).2.1].getD ((placed f)[n]).2.2 default = f.blocks[((placed f)[n]).2.1][((placed f)[n]).2.2] := by simp [hi]
    rwa [e2] at this
end Go.AL
namespace Go.AL
theorem placed_all {f : Fn} (q : Inst → Bool) : ((placed f).all fun p => q p.1) = f.blocks.all fun l => l.all q := by
  have : ((placed f).all fun p => q p.1) = ((placed f).map (·.1)).all q := by rw [List.all_map]; rfl
  rw [this, placed_insts, List.all_flatten]
def shN (f : Fn) (n : Nat) : Bool := ((placed f).take n).all fun p => shapedI f p.1
def tyN (f : Fn) (n : Nat) : Bool := ((placed f).take n).all fun p => typedI f p.1
theorem shN_succ {f : Fn} {n : Nat} {p : Inst × Nat × Nat} (h : (placed f)[n]? = some p) : shN f (n + 1) = (shN f n && shapedI f p.1) := by
  obtain ⟨hn, e⟩ := List.getElem?_eq_some_iff.1 h
  rw [shN, shN, List.take_succ_eq_append_getElem hn, List.all_append]; simp [e]
theorem tyN_succ {f : Fn} {n : Nat} {p : Inst × Nat × Nat} (h : (placed f)[n]? = some p) : tyN f (n + 1) = (tyN f n && typedI f p.1) := by
  obtain ⟨hn, e⟩ := List.getElem?_eq_some_iff.1 h
  rw [tyN, tyN, List.take_succ_eq_append_getElem hn, List.all_append]; simp [e]
theorem shN_all {f : Fn} : shN f (itemsA f).length = f.blocks.all fun l => l.all (shapedI f) := by
  rw [shN, List.take_of_length_le (by rw [placed_len, items_len]; omega), placed_all]
theorem tyN_all {f : Fn} : tyN f (itemsA f).length = f.blocks.all fun l => l.all (typedI f) := by
  rw [tyN, List.take_of_length_le (by rw [placed_len, items_len]; omega), placed_all]
theorem all_congr {α : Type} {l : List α} {p q : α → Bool} (h : ∀ x ∈ l, p x = q x) : l.all p = l.all q := by
  induction l with
  | nil => rfl
  | cons a l ih => simp only [List.all_cons]; rw [h a (by simp), ih fun x hx => h x (by simp [hx])]
theorem shaped_all {f : Fn} (hf : f.Fits) (hr : 0 ≤ f.ret) : (f.blocks.all fun l => l.all (shapedI f)) = argsOk f :=
  all_congr fun l hl => all_congr fun x hx => shaped_eq hr (hf.inst l hl x hx)
theorem typed_all {f : Fn} (hf : f.Fits) (hr : 0 ≤ f.ret ∧ f.ret ≤ 32) (ha : argsOk f = true) : (f.blocks.all fun l => l.all (typedI f)) = typesOk f :=
  all_congr fun l hl => all_congr fun x hx => typed_eq hr (by rw [shaped_eq hr.1 (hf.inst l hl x hx)]; exact argsOk_at ha l hl x hx)
theorem getLast_get {l : List Inst} (h : 0 < l.length) : l.getLast? = some (l[l.length - 1]'(by omega)) := by
  rw [List.getLast?_eq_getElem?, List.getElem?_eq_getElem (by omega)]
theorem graph_gg {f : Fn} (hf : f.Fits) (hb : bigR f = false) (ha : argsOk f = true) (hl : f.blocks.all blockI = true) : GG (graphR f) := by
  refine ⟨graph_ok hf hb ha, ?_, fun l hlm => ?_⟩
  · rw [graph_len]
    simp [bigR] at hb
    omega
  · obtain ⟨bl, hbl, rfl⟩ := List.mem_map.1 hlm
    have hbi := List.all_eq_true.1 hl bl hbl
    unfold blockI at hbi
    rw [Bool.and_eq_true] at hbi
    have hlo := hbi.1
    unfold lastOk at hlo
    by_cases h0 : 0 < bl.length
    · rw [dif_pos h0] at hlo
      unfold lastTo
      rw [getLast_get h0]
      simp only [Option.map_some, Option.getD_some]
      have hx := argsOk_at ha bl hbl _ (List.getElem_mem (show bl.length - 1 < bl.length by omega))
      generalize bl[bl.length - 1] = x at *
      simp only [argumentR, Bool.and_eq_true, Bool.not_eq_true', countBad, Bool.or_eq_false_iff] at hx
      have hto := hx.1.1.2.2
      unfold isLastR at hlo
      simp only [Bool.or_eq_true, beq_iff_eq] at hlo
      rcases hlo with ((h | h) | h) | h
      all_goals
        simp only [shapeR, h] at hto
        simp at hto
        first | omega | (rw [hto]; simp)
    · rw [dif_neg h0] at hlo; cases hlo
theorem args_in {f : Fn} (ha : argsOk f = true) (ht : typesOk f = true) : ArgsIn f := by
  refine ⟨fun l hl x hx v hv => ?_, fun l hl x hx t htt => ?_, fun l hl x hx h => phi_len (argsOk_at ha l hl x hx) h⟩
  · have h1 := List.all_eq_true.1 (List.all_eq_true.1 ht l hl) x hx
    have h2 : ¬ kindR f v < 0 := by
      intro hk
      unfold typedR at h1
      rw [if_pos (List.any_eq_true.2 ⟨kindR f v, List.mem_map.2 ⟨v, hv, rfl⟩, by simpa using hk⟩)] at h1
      cases h1
    by_cases hh : v < 0 ∨ countR f ≤ v
    · rw [kind_none hh] at h2; omega
    · omega
  · obtain ⟨k, hk, rfl⟩ := List.getElem_of_mem htt
    have := to_ok (argsOk_at ha l hl x hx) hk
    simpa [hk] using this
end Go.AL
namespace Go.AL
open Go.Proofs
theorem u31 : Tryz.prog.underlying 31 = some Tryz.t3.desc := by kernel_rfl
theorem s31 : (Tryz.prog.info? 31).map (·.size) = some 1 := by kernel_rfl
theorem z31 : (Tryz.prog.info? 31).bind (·.zero) = Tryz.t31.zero := by kernel_rfl
theorem b31 : ((Tryz.prog.info? 31).map fun i => Nat.ble i.bytes 1000) = some true := by kernel_rfl
theorem e50 : Enters Tryz.prog 50 := enters_of Tryz.func50 (by kernel_rfl) (by kernel_rfl)
set_option maxRecDepth 100000 in
set_option maxHeartbeats 4000000 in
theorem c50 (f : Fn) (hf : f.Fits) : Ok Tryz.prog 50 [.dat none (fnD f)] [] (.v (.int .i64 (validateR f))) [] := by
  refine ok_of e50 Tryz.func50 rfl (by kernel_rfl) ?_
  intro cx hP hro hN hvk
  obtain ⟨P, ro, w0, Bin, N, R0, tk0, bl0, vk⟩ := cx
  subst hP hro hN
  have hvkd := vkd_of hvk
  refine aw_seq ?_
  refine aw_region ?_
  refine al_opc (k := 101) rfl rfl rfl ((hvk _).trans rfl) (opC_box rfl (ev_tmp rfl) rfl) ?_
  refine al_opc (k := 102) rfl rfl rfl ((hvk _).trans rfl) (opC_alloc rfl z31) ?_
  refine al_nil ?_
  refine aw_seq ?_
  refine aw_seq ?_
  refine aw_region ?_
  refine al_op rfl rfl rfl (opP_fieldAddr rfl (ev_tmp rfl) u27 rfl rfl s22 rfl) ?_
  refine al_op rfl rfl rfl (opP_load_pt rfl u22 rfl (ev_tmp rfl) rfl rfl) ?_
  refine al_op rfl rfl rfl (opP_len rfl u22 (ev_tmp rfl) (by first | exact lenA_ints | exact lenA_map | rfl)) ?_
  refine al_op rfl rfl rfl (opP_bin rfl (ev_tmp rfl) (ev_const rfl) rfl) ?_
  refine al_op rfl rfl rfl (opP_move rfl (ev_tmp rfl)) ?_
  refine al_opg rfl rfl rfl rfl rfl rfl (opP_fieldAddr rfl (ev_tmp rfl) u27 rfl rfl s22 rfl) ?_
  refine al_opg rfl rfl rfl rfl rfl rfl (opP_load_pt rfl u22 rfl (ev_when rfl id) rfl rfl) ?_
  refine al_opg rfl rfl rfl rfl rfl rfl (opP_len rfl u22 (ev_when rfl id) (by first | exact lenA_ints | exact lenA_map | rfl)) ?_
  refine al_opg rfl rfl rfl rfl rfl rfl (opP_bin rfl (ev_when rfl id) (ev_const rfl) rfl) ?_
  refine al_op rfl rfl rfl (opP_or rfl (ev_tmp rfl) (ev_when rfl id)) ?_
  refine al_op rfl rfl rfl (opP_move rfl (ev_tmp rfl)) ?_
  refine al_opg rfl rfl rfl rfl rfl rfl (opP_fieldAddr rfl (ev_tmp rfl) u27 rfl rfl s25 rfl) ?_
  refine al_opg rfl rfl rfl rfl rfl rfl (opP_load_pt rfl u25 rfl (ev_when rfl id) rfl rfl) ?_
  refine al_opg rfl rfl rfl rfl rfl rfl (opP_len rfl u25 (ev_when rfl id) (by first | exact lenA_ints | exact lenA_map | rfl)) ?_
  refine al_opg rfl rfl rfl rfl rfl rfl (opP_bin rfl (ev_when rfl id) (ev_const rfl) rfl) ?_
  refine al_op rfl rfl rfl (opP_or rfl (ev_tmp rfl) (ev_when rfl id)) ?_
  refine al_op rfl rfl rfl (opP_move rfl (ev_tmp rfl)) ?_
  refine al_opg rfl rfl rfl rfl rfl rfl (opP_fieldAddr rfl (ev_tmp rfl) u27 rfl rfl s25 rfl) ?_
  refine al_opg rfl rfl rfl rfl rfl rfl (opP_load_pt rfl u25 rfl (ev_when rfl id) rfl rfl) ?_
  refine al_opg rfl rfl rfl rfl rfl rfl (opP_len rfl u25 (ev_when rfl id) (by first | exact lenA_ints | exact lenA_map | rfl)) ?_
  refine al_opg rfl rfl rfl rfl rfl rfl (opP_bin rfl (ev_when rfl id) (ev_const rfl) rfl) ?_
  refine al_op rfl rfl rfl (opP_or rfl (ev_tmp rfl) (ev_when rfl id)) ?_
  refine al_op rfl rfl rfl (opP_move rfl (ev_tmp rfl)) ?_
  refine al_opg rfl rfl rfl rfl rfl rfl (opP_load_ptn rfl u27 rfl s27 (ev_tmp rfl) rfl rfl) ?_
  refine al_stepD rfl rfl (stepD_callg rfl rfl rfl rfl (callOf_func rfl (.cons (ev_when rfl id) .nil)) (fun gd => c95 f hf) (fun gd => (by repeat' (first | refine Vw.stDOf ?_ | refine Vw.ptOf rfl rfl rfl ?_ | refine Vw.prvOf ?_ | refine Vw.cloOf ?_ | constructor))) rfl (fun _ => rfl)) ?_
  refine al_opg rfl rfl rfl rfl rfl rfl (opP_bin rfl (ev_when rfl id) (ev_const rfl) rfl) ?_
  refine al_op rfl rfl rfl (opP_or rfl (ev_tmp rfl) (ev_when rfl id)) ?_
  refine al_nil ?_
  refine aw_cond rfl (fun h1 => ?_) (fun h1 => ?_)
  · have e1 : (bigR f || manyR f) = true := h1
    refine aw_seq ?_
    refine aw_region ?_
    refine al_store_pt rfl rfl rfl s31 (ev_tmp rfl) (ev_const rfl) rfl rfl rfl rfl rfl rfl ?_
    refine al_nil ?_
    refine aw_ret ?_
    have e : validateR f = 3 := by
      unfold validateR
      cases h2 : bigR f with
      | true => rfl
      | false => rw [h2] at e1; rw [show manyR f = true by simpa using e1]; rfl
    rw [e]; exact ret_id _ (.cell rfl u31 rfl rfl rfl .nil) rfl trivial rfl rfl
  have e0 : (bigR f || manyR f) = false := h1
  rw [Bool.or_eq_false_iff] at e0
  obtain ⟨e1, e2⟩ := e0
  have hs40 : total f.blocks ≤ 40 := by have := e2; unfold manyR at this; have h := of_decide_eq_false this; omega
  have hp3 : f.params.length ≤ 3 := by have := e1; simp [bigR] at this; omega
  refine aw_skip ?_
  refine aw_seq ?_
  refine aw_seq ?_
  refine aw_region ?_
  refine al_op rfl rfl rfl (opP_load_ptn rfl u27 rfl s27 (ev_tmp rfl) rfl rfl) ?_
  refine al_call (id) rfl rfl rfl (callOf_func rfl (.cons (ev_tmp rfl) .nil)) (c96 f hf) (by repeat' (first | refine Vw.stDOf ?_ | refine Vw.ptOf rfl rfl rfl ?_ | refine Vw.prvOf ?_ | refine Vw.cloOf ?_ | constructor)) (fun _ h => absurd h (by simp)) rfl rfl rfl (fun _ h => absurd h (by simp)) ?_
  refine al_op rfl rfl rfl (opP_not rfl (ev_tmp rfl)) ?_
  refine al_nil ?_
  refine aw_cond rfl (fun h2 => ?_) (fun h2 => ?_)
  · refine aw_seq ?_
    refine aw_region ?_
    refine al_store_pt rfl rfl rfl s31 (ev_tmp rfl) (ev_const rfl) rfl rfl rfl rfl rfl rfl ?_
    refine al_nil ?_
    refine aw_ret ?_
    have e0 : (!(retBad f) && f.params.all isW && slotsOk f) = false := (Bool.not_eq_true' _).mp h2
    have e : validateR f = 1 := by
      unfold validateR
      rw [e1, e2]
      cases h3 : retBad f <;> cases h4 : f.params.all isW <;> cases h5 : slotsOk f <;> simp [h3, h4, h5] at e0 ⊢
    rw [e]; exact ret_id _ (.cell rfl u31 rfl rfl rfl .nil) rfl trivial rfl rfl
  have e0 : (!(retBad f) && f.params.all isW && slotsOk f) = true := (Bool.not_eq_false' _).mp h2
  simp only [Bool.and_eq_true, Bool.not_eq_true'] at e0
  obtain ⟨⟨e3, e4⟩, e5⟩ := e0
  have hret : 0 ≤ f.ret ∧ f.ret ≤ 32 := by have := e3; simp [retBad] at this; omega
  refine aw_skip ?_
  refine aw_seq ?_
  refine aw_seq ?_
  refine aw_region ?_
  refine al_op rfl rfl rfl (opP_load_ptn rfl u27 rfl s27 (ev_tmp rfl) rfl rfl) ?_
  refine al_callR (id) rfl rfl rfl (callOf_func rfl (.cons (ev_tmp rfl) .nil)) (c97 f) (by repeat' (first | refine VwR.stDOf ?_ | refine VwR.stOf ?_ | refine VwR.cloOf ?_ | constructor)) rfl rfl rfl (fun p hp => (hvk _).trans (by simp at hp; subst hp; rfl)) ?_
  refine al_nil ?_
  refine aw_block ?_
  refine aw_range (α := Unit) (p := 38) (it160 f hf 97001 rfl) rfl rfl rfl 301 [102] [] [(1, .pt 101 0), (2, .pt 102 0)] [(1, .prv (fnA f)), (2, .pt 102 0)] [(97001, .var (fnA f)), (101, .var (fnA f))] (fun n _ => [(102, .var [.v (.int .i64 0)])]) (fun n _ => shN f n = true) (fun c po => c = .ret ∧ po = [(102, .var [.v (.int .i64 1)])] ∧ argsOk f = false) (fun n => itemOf f n) () rfl rfl ((hvk _).trans rfl) (fun k hk => hvkd [] rfl k (inL_iff.1 hk)) (fun k hk => hvkd [160001] rfl k (inL_iff.1 hk)) rfl rfl rfl rfl (by repeat (first | exact trivial | refine ⟨rfl, ?_⟩)) rfl rfl (by repeat (first | exact trivial | refine ⟨rfl, ?_⟩)) (by repeat (first | exact trivial | refine ⟨rfl, ?_⟩)) (fun objs h => has_one h) (fun n x h => rfl) (fun c po h => by obtain ⟨_, rfl, _⟩ := h; rfl) (fun n x h => rfl) (fun c po h => by obtain ⟨_, rfl, _⟩ := h; rfl) (fun n hn _ objs _ => item_vw hn objs _) (fun n x h => .cons (Vw.ptOf rfl rfl rfl (.cons (.datn _) (.cons (.v _) (.cons (.datn _) (.cons (.datn _) .nil))))) (.cons (.ptL (ρ := id) 102 0 rfl) .nil)) ?_ ?_ ?_
  · rintro n hn _ hsh cx hP ⟨l, hro⟩ hN hvk
    obtain ⟨P, ro, w0, Bin, N, R0, tk0, bl0, vk⟩ := cx
    have hP : P = Tryz.prog := hP
    have hN : N = Tryz.f50.ntmps := hN
    have hro : ro = some l := hro
    subst hP hN hro
    have hvkd := vkd_of hvk
    obtain ⟨b, i, hb, hi, hnn, hit, hpl⟩ := item_at hn
    rw [hit]
    have hnl : n < (placed f).length := by rw [placed_len, ← items_len]; exact hn
    have hxf := hf.inst _ (List.getElem_mem hb) _ (List.getElem_mem hi)
    refine aw_region ?_
    refine al_opc (k := 103) rfl rfl rfl ((hvk _).trans rfl) (opC_alloc rfl z129) ?_
    refine al_store_pt rfl rfl rfl s129 (ev_tmp rfl) (ev_tmp rfl) rfl rfl rfl rfl rfl rfl ?_
    refine al_nil ?_
    refine ⟨rfl, ?_⟩
    rintro cx hP ⟨l, hro⟩ hN hvk
    obtain ⟨P, ro, w0, Bin, N, R0, tk0, bl0, vk⟩ := cx
    have hP : P = Tryz.prog := hP
    have hN : N = Tryz.f50.ntmps := hN
    have hro : ro = some l := hro
    subst hP hN hro
    have hvkd := vkd_of hvk
    refine aw_block ?_
    refine aw_seq ?_
    refine aw_region ?_
    refine al_op rfl rfl rfl (opP_load_prvn rfl u27 rfl s27 (ev_tmp rfl) rfl) ?_
    refine al_op rfl rfl rfl (opP_fieldAddr rfl (ev_tmp rfl) u129 rfl rfl s38 rfl) ?_
    refine al_op rfl rfl rfl (opP_load_ptn rfl u38 rfl s38 (ev_tmp rfl) rfl rfl) ?_
    refine al_call (id) rfl rfl rfl (callOf_func rfl (.cons (ev_tmp rfl) (.cons (ev_tmp rfl) .nil))) (c98 f f.blocks[b][i] hf hxf) (by repeat' (first | refine Vw.stDOf ?_ | refine Vw.ptOf rfl rfl rfl ?_ | refine Vw.prvOf ?_ | refine Vw.cloOf ?_ | constructor)) (fun _ h => absurd h (by simp)) rfl rfl rfl (fun _ h => absurd h (by simp)) ?_
    refine al_op rfl rfl rfl (opP_not rfl (ev_tmp rfl)) ?_
    refine al_nil ?_
    refine aw_condS rfl (fun h3 => ?_) (fun h3 => ?_)
    · refine aw_skip ?_
      refine round_id [(102, .var [.v (.int .i64 0)])] ⟨(), ?_, rfl⟩ ⟨rfl, trivial⟩ rfl
      rw [shN_succ hpl, hsh, show shapedI f f.blocks[b][i] = true by simpa using h3]; rfl
    refine aw_seq ?_
    refine aw_region ?_
    refine al_store_pt rfl rfl rfl s31 (ev_tmp rfl) (ev_const rfl) rfl rfl rfl rfl rfl rfl ?_
    refine al_nil ?_
    refine aw_ret ?_
    refine round_id [(102, .var [.v (.int .i64 1)])] ⟨rfl, rfl, ?_⟩ ⟨rfl, trivial⟩ rfl
    rw [← shaped_all hf hret.1]
    exact List.all_eq_false.2 ⟨_, List.getElem_mem hb, by rw [List.all_eq_false.2 ⟨_, List.getElem_mem hi, by simpa using h3⟩]; simp⟩
  · rintro _ hsh
    have ea : argsOk f = true := by rw [← shaped_all hf hret.1, ← shN_all]; exact hsh
    refine aw_seq ?_
    refine aw_seq ?_
    refine aw_region ?_
    refine al_op rfl rfl rfl (opP_load_ptn rfl u27 rfl s27 (ev_tmp rfl) rfl rfl) ?_
    refine al_call (id) rfl rfl rfl (callOf_func rfl (.cons (ev_tmp rfl) .nil)) (c99 f hf (graph_gg hf e1 ea)) (by repeat' (first | refine Vw.stDOf ?_ | refine Vw.ptOf rfl rfl rfl ?_ | refine Vw.prvOf ?_ | refine Vw.cloOf ?_ | constructor)) (fun _ h => absurd h (by simp)) rfl rfl rfl (fun _ h => absurd h (by simp)) ?_
    refine al_op rfl rfl rfl (opP_not rfl (ev_tmp rfl)) ?_
    refine al_nil ?_
    refine aw_cond rfl (fun h4 => ?_) (fun h4 => ?_)
    · refine aw_seq ?_
      refine aw_region ?_
      refine al_store_pt rfl rfl rfl s31 (ev_tmp rfl) (ev_const rfl) rfl rfl rfl rfl rfl rfl ?_
      refine al_nil ?_
      refine aw_ret ?_
      have e : validateR f = 7 := by simp only [validateR, e1, e2, e3, e4, e5, ea, show rulesR f = false by simpa using h4, cond_true, cond_false, Bool.not_true, Bool.not_false]
      rw [e]; exact ret_id _ (.cell rfl u31 rfl rfl rfl .nil) rfl trivial rfl rfl
    have er : rulesR f = true := by simpa using h4
    have hall : f.blocks.all blockI = true := by
      have h := er
      rw [rules_eq, Bool.and_eq_true, Bool.and_eq_true] at h
      exact h.1.1
    have hgg := graph_gg hf e1 ea hall
    have hne := blockI_ne hall
    refine aw_skip ?_
    refine aw_seq ?_
    refine aw_region ?_
    refine al_op rfl rfl rfl (opP_load_ptn rfl u27 rfl s27 (ev_tmp rfl) rfl rfl) ?_
    refine al_call (id) rfl rfl rfl (callOf_func rfl (.cons (ev_tmp rfl) .nil)) (c100 f hf (by omega) (by omega)) (by repeat' (first | refine Vw.stDOf ?_ | refine Vw.ptOf rfl rfl rfl ?_ | refine Vw.prvOf ?_ | refine Vw.cloOf ?_ | constructor)) (fun _ h => absurd h (by simp)) rfl rfl rfl (fun p hp => .inr ((hvk _).trans (by simp at hp; subst hp; rfl))) ?_
    refine al_opc (k := 104) rfl rfl rfl ((hvk _).trans rfl) (opC_alloc rfl z22) ?_
    refine al_store_pt rfl rfl rfl s22 (ev_tmp rfl) (ev_tmp rfl) rfl rfl rfl rfl rfl rfl ?_
    refine al_nil ?_
    refine aw_seq ?_
    refine aw_seq ?_
    refine aw_region ?_
    refine al_op rfl rfl rfl (opP_load_ptn rfl u27 rfl s27 (ev_tmp rfl) rfl rfl) ?_
    refine al_callR (id) rfl rfl rfl (callOf_func rfl (.cons (ev_tmp rfl) .nil)) (c97 f) (by repeat' (first | refine VwR.stDOf ?_ | refine VwR.stOf ?_ | refine VwR.cloOf ?_ | constructor)) rfl rfl rfl (fun p hp => (hvk _).trans (by simp at hp; subst hp; rfl)) ?_
    refine al_nil ?_
    refine aw_block ?_
    refine aw_range (α := Unit) (p := 51) (it160 f hf 97001 rfl) rfl rfl rfl 302 [102] [] [(1, .pt 101 0), (2, .pt 102 0), (4, .pt 104 0)] [(1, .prv (fnA f)), (2, .pt 102 0), (4, .prv [.dat none (.sl 1 (ints (kindsR f)))])] [(97001, .var (fnA f)), (101, .var (fnA f)), (104, .var [.row 100001 1 0 (kindsR f).length]), (100001, .row 1 (ints (kindsR f)))] (fun n _ => [(102, .var [.v (.int .i64 0)])]) (fun n _ => tyN f n = true) (fun c po => c = .ret ∧ po = [(102, .var [.v (.int .i64 6)])] ∧ typesOk f = false) (fun n => itemOf f n) () rfl rfl ((hvk _).trans rfl) (fun k hk => hvkd [] rfl k (inL_iff.1 hk)) (fun k hk => hvkd [160001] rfl k (inL_iff.1 hk)) rfl rfl rfl rfl (by repeat (first | exact trivial | refine ⟨rfl, ?_⟩)) rfl rfl (by repeat (first | exact trivial | refine ⟨rfl, ?_⟩)) (by repeat (first | exact trivial | refine ⟨rfl, ?_⟩)) (fun objs h => has_one h) (fun n x h => rfl) (fun c po h => by obtain ⟨_, rfl, _⟩ := h; rfl) (fun n x h => rfl) (fun c po h => by obtain ⟨_, rfl, _⟩ := h; rfl) (fun n hn _ objs _ => item_vw hn objs _) (fun n x h => .cons (Vw.ptOf rfl rfl rfl (.cons (.datn _) (.cons (.v _) (.cons (.datn _) (.cons (.datn _) .nil))))) (.cons (.ptL (ρ := id) 102 0 rfl) (.cons (Vw.ptOf rfl rfl rfl (.cons (Vw.row _ _ _ _ _ _ rfl rfl (by rw [ints_len]; omega) (by rw [List.drop_zero, List.take_of_length_le (by rw [ints_len]; omega)])) .nil)) .nil))) ?_ ?_ ?_
    · rintro n hn _ hty cx hP ⟨l, hro⟩ hN hvk
      obtain ⟨P, ro, w0, Bin, N, R0, tk0, bl0, vk⟩ := cx
      have hP : P = Tryz.prog := hP
      have hN : N = Tryz.f50.ntmps := hN
      have hro : ro = some l := hro
      subst hP hN hro
      have hvkd := vkd_of hvk
      obtain ⟨b, i, hb, hi, hnn, hit, hpl⟩ := item_at hn
      rw [hit]
      have hnl : n < (placed f).length := by rw [placed_len, ← items_len]; exact hn
      have hxf := hf.inst _ (List.getElem_mem hb) _ (List.getElem_mem hi)
      refine aw_region ?_
      refine al_opc (k := 105) rfl rfl rfl ((hvk _).trans rfl) (opC_alloc rfl z129) ?_
      refine al_store_pt rfl rfl rfl s129 (ev_tmp rfl) (ev_tmp rfl) rfl rfl rfl rfl rfl rfl ?_
      refine al_nil ?_
      refine ⟨rfl, ?_⟩
      rintro cx hP ⟨l, hro⟩ hN hvk
      obtain ⟨P, ro, w0, Bin, N, R0, tk0, bl0, vk⟩ := cx
      have hP : P = Tryz.prog := hP
      have hN : N = Tryz.f50.ntmps := hN
      have hro : ro = some l := hro
      subst hP hN hro
      have hvkd := vkd_of hvk
      refine aw_block ?_
      refine aw_seq ?_
      refine aw_region ?_
      refine al_op rfl rfl rfl (opP_load_prvn rfl u27 rfl s27 (ev_tmp rfl) rfl) ?_
      refine al_op rfl rfl rfl (opP_fieldAddr rfl (ev_tmp rfl) u129 rfl rfl s38 rfl) ?_
      refine al_op rfl rfl rfl (opP_load_ptn rfl u38 rfl s38 (ev_tmp rfl) rfl rfl) ?_
      refine al_op rfl rfl rfl (opP_load_prv rfl u22 rfl (ev_tmp rfl)) ?_
      refine al_call (id) rfl rfl rfl (callOf_func rfl (.cons (ev_tmp rfl) (.cons (ev_tmp rfl) (.cons (ev_tmp rfl) .nil)))) (c101 f f.blocks[b][i] hxf (by rw [shaped_eq hret.1 hxf]; exact argsOk_at ea _ (List.getElem_mem hb) _ (List.getElem_mem hi))) (by repeat' (first | refine Vw.stDOf ?_ | refine Vw.ptOf rfl rfl rfl ?_ | refine Vw.prvOf ?_ | refine Vw.cloOf ?_ | constructor)) (fun _ h => absurd h (by simp)) rfl rfl rfl (fun _ h => absurd h (by simp)) ?_
      refine al_op rfl rfl rfl (opP_not rfl (ev_tmp rfl)) ?_
      refine al_nil ?_
      refine aw_condS rfl (fun h5 => ?_) (fun h5 => ?_)
      · refine aw_skip ?_
        refine round_id [(102, .var [.v (.int .i64 0)])] ⟨(), ?_, rfl⟩ ⟨rfl, trivial⟩ rfl
        rw [tyN_succ hpl, hty, show typedI f f.blocks[b][i] = true by simpa using h5]; rfl
      refine aw_seq ?_
      refine aw_region ?_
      refine al_store_pt rfl rfl rfl s31 (ev_tmp rfl) (ev_const rfl) rfl rfl rfl rfl rfl rfl ?_
      refine al_nil ?_
      refine aw_ret ?_
      refine round_id [(102, .var [.v (.int .i64 6)])] ⟨rfl, rfl, ?_⟩ ⟨rfl, trivial⟩ rfl
      rw [← typed_all hf hret ea]
      exact List.all_eq_false.2 ⟨_, List.getElem_mem hb, by rw [List.all_eq_false.2 ⟨_, List.getElem_mem hi, by simpa using h5⟩]; simp⟩
    · rintro _ hty
      have et : typesOk f = true := by rw [← typed_all hf hret ea, ← tyN_all]; exact hty
      refine aw_seq ?_
      refine aw_seq ?_
      refine aw_region ?_
      have hdl := defined_eq hgg (args_in ea et)
      refine al_op rfl rfl rfl (opP_load_ptn rfl u27 rfl s27 (ev_tmp rfl) rfl rfl) ?_
      refine al_call (id) rfl rfl rfl (callOf_func rfl (.cons (ev_tmp rfl) .nil)) (c102 f hf (by omega) hne hgg (args_in ea et)) (by repeat' (first | refine Vw.stDOf ?_ | refine Vw.ptOf rfl rfl rfl ?_ | refine Vw.prvOf ?_ | refine Vw.cloOf ?_ | constructor)) (fun _ h => absurd h (by simp)) rfl rfl rfl (fun _ h => absurd h (by simp)) ?_
      refine al_op rfl rfl rfl (opP_not rfl (ev_tmp rfl)) ?_
      refine al_nil ?_
      refine aw_cond rfl (fun h6 => ?_) (fun h6 => ?_)
      · refine aw_seq ?_
        refine aw_region ?_
        refine al_store_pt rfl rfl rfl s31 (ev_tmp rfl) (ev_const rfl) rfl rfl rfl rfl rfl rfl ?_
        refine al_nil ?_
        refine aw_ret ?_
        have e : validateR f = 9 := by simp only [validateR, e1, e2, e3, e4, e5, ea, er, et, show statedR f = false by rw [← hdl]; simpa using h6, cond_true, cond_false, Bool.not_true, Bool.not_false]
        rw [e]; exact ret_id _ (.cell rfl u31 rfl rfl rfl .nil) rfl trivial rfl rfl
      refine aw_skip ?_
      refine aw_seq ?_
      refine aw_region ?_
      refine al_store_pt rfl rfl rfl s31 (ev_tmp rfl) (ev_const rfl) rfl rfl rfl rfl rfl rfl ?_
      refine al_nil ?_
      refine aw_ret ?_
      have e : validateR f = 0 := by simp only [validateR, e1, e2, e3, e4, e5, ea, er, et, show statedR f = true by rw [← hdl]; simpa using h6, cond_true, cond_false, Bool.not_true, Bool.not_false]
      rw [e]; exact ret_id _ (.cell rfl u31 rfl rfl rfl .nil) rfl trivial rfl rfl
    · rintro c po ⟨rfl, rfl, et⟩
      refine aw_ret ?_
      have e : validateR f = 6 := by simp only [validateR, e1, e2, e3, e4, e5, ea, er, et, cond_true, cond_false, Bool.not_true, Bool.not_false]
      rw [e]; exact ret_id _ (.cell rfl u31 rfl rfl rfl .nil) rfl trivial rfl rfl
  · rintro c po ⟨rfl, rfl, ea⟩
    refine aw_ret ?_
    have e : validateR f = 1 := by simp only [validateR, e1, e2, e3, e4, e5, ea, cond_true, cond_false, Bool.not_true, Bool.not_false]
    rw [e]; exact ret_id _ (.cell rfl u31 rfl rfl rfl .nil) rfl trivial rfl rfl
end Go.AL
namespace Go.AL
mutual
def A.hitd (k k2 : Nat) : A → Bool
  | .dat (some j) _ | .pr (some j) _ => Nat.beq j k || Nat.beq j k2
  | .row j _ _ _ | .pe j _ _ _ | .pt j _ => Nat.beq j k2
  | .prv cs | .clo _ cs | .st cs | .tup cs => hitdL k k2 cs
  | .when _ a => a.hitd k k2
  | _ => false
def hitdL (k k2 : Nat) : List A → Bool
  | [] => false
  | a :: l => a.hitd k k2 || hitdL k k2 l
end
def A.killd (k k2 : Nat) (a : A) : A := bif a.hitd k k2 then .any else a
def O.killd (k k2 : Nat) : O → O
  | .var cs => .var (cs.map (A.killd k k2))
  | .lp l r sl => .lp l r (sl.map fun p => (p.1, p.2.killd k k2))
  | o => o
theorem hitdL_get {k k2 : Nat} : ∀ {l : List A}, hitdL k k2 l = false → ∀ (j : Nat) (hj : j < l.length), l[j].hitd k k2 = false
  | [], _, j, hj => absurd hj (Nat.not_lt_zero _)
  | a :: l, h, j, hj => by
    simp only [hitdL, Bool.or_eq_false_iff] at h
    cases j with
    | zero => exact h.1
    | succ j => exact hitdL_get h.2 j (by simpa using hj)
def State.take (st : State) (t k : Nat) (o : O) (k2 es2 : Nat) (ys : List D) : State where
  slots := fun j => bif Nat.beq j t then .row k2 es2 0 ys.length else (st.slots j).killd k k2
  objs := fun j => bif Nat.beq j k2 then some (.row es2 ys) else bif Nat.beq j k then some o else (st.objs j).map (O.killd k k2)
open Classical in
noncomputable def takeE (E : Env) (k k2 b2 cap2 : Nat) (real2 : Prop) (G : Nat → Prop) : Env where
  R := E.R
  bl := fun j => if j = k2 then b2 else E.bl j
  real := fun j => if j = k2 then real2 else E.real j
  cap := fun j => if j = k2 then cap2 else E.cap j
  fp := fun j => if j = k2 then G else if j = k then (fun b => E.fp k b ∧ ¬ G b) else E.fp j
  tk := E.tk
theorem beq_false' {a b : Nat} (h : Nat.beq a b = false) : a ≠ b := fun e => by rw [beq_iff.2 e] at h; cases h
theorem take_rep {E : Env} {w : World} {k k2 b2 cap2 : Nat} {real2 : Prop} {G : Nat → Prop} : ∀ (x : A) (u : Value), Rep E w u x → x.hitd k k2 = false → Rep (takeE E k k2 b2 cap2 real2 G) w u x := by
  have hreg : ∀ r b, (∀ j, r = some j → j ≠ k ∧ j ≠ k2) → E.reg r b → (takeE E k k2 b2 cap2 real2 G).reg r b := by
    intro r b hn hb
    cases r with
    | none => exact hb
    | some j =>
      obtain ⟨h1, h2⟩ := hn j rfl
      simp only [Env.reg, takeE, if_neg h1, if_neg h2] at hb ⊢
      exact hb
  have hk : ∀ (r : Option Nat), (match r with | some j => Nat.beq j k || Nat.beq j k2 | none => false) = false → ∀ j, r = some j → j ≠ k ∧ j ≠ k2 := by
    intro r h j e
    subst e
    simp only [Bool.or_eq_false_iff] at h
    exact ⟨beq_false' h.1, beq_false' h.2⟩
  intro x u h
  induction h with
  | any v => exact fun _ => .any v
  | v u x h => exact fun _ => .v u x h
  | dat r u x h => exact fun hh => .dat r u x (h.mono (hreg r · (hk r (by cases r <;> first | rfl | exact hh))) fun _ _ => rfl)
  | nil a => exact fun _ => .nil a
  | row j es lo n hr =>
    intro hh
    have hj := beq_false' (show Nat.beq j k2 = false from hh)
    have := Rep.row (E := takeE E k k2 b2 cap2 real2 G) (w := w) j es lo n (by simp only [takeE, if_neg hj]; exact hr)
    simpa only [takeE, if_neg hj] using this
  | rownil j es a hr =>
    intro hh
    have hj := beq_false' (show Nat.beq j k2 = false from hh)
    exact .rownil j es a (by simp only [takeE, if_neg hj]; exact hr)
  | pt j o =>
    intro hh
    have hj := beq_false' (show Nat.beq j k2 = false from hh)
    have := Rep.pt (E := takeE E k k2 b2 cap2 real2 G) (w := w) j o
    simpa only [takeE, if_neg hj] using this
  | pe j es i o hr =>
    intro hh
    have hj := beq_false' (show Nat.beq j k2 = false from hh)
    have := Rep.pe (E := takeE E k k2 b2 cap2 real2 G) (w := w) j es i o (by simp only [takeE, if_neg hj]; exact hr)
    simpa only [takeE, if_neg hj] using this
  | pr r cs b o us hb hc hr =>
    intro hh
    have hn := hk r (by cases r <;> first | rfl | exact hh)
    exact .pr r cs b o us (hreg r b hn hb) hc fun j hj => (hr j hj).mono (hreg r · hn) fun _ _ => rfl
  | prv cs b o us hb hc hr ih => exact fun hh => .prv cs b o us hb hc fun j hj => ih j hj (hitdL_get hh j hj)
  | clo f caps vs hs hr ih => exact fun hh => .clo f caps vs hs fun j hj => ih j hj (hitdL_get hh j hj)
  | nilf => exact fun _ => .nilf
  | nilp => exact fun _ => .nilp
  | yld l => exact fun _ => .yld l
  | st cs vs hs hr ih => exact fun hh => .st cs vs hs fun j hj => ih j hj (hitdL_get hh j hj)
  | tup cs vs hs hr ih => exact fun hh => .tup cs vs hs fun j hj => ih j hj (hitdL_get hh j hj)
  | when g a u h1 h2 ih => exact fun hh => .when g a u (fun hg => ih hg hh) h2
  | tok i j => exact fun _ => .tok (E := takeE E k k2 b2 cap2 real2 G) i j
theorem take_killd {E : Env} {w : World} {k k2 b2 cap2 : Nat} {real2 : Prop} {G : Nat → Prop} {x : A} {u : Value} (h : Rep E w u x) : Rep (takeE E k k2 b2 cap2 real2 G) w u (x.killd k k2) := by
  simp only [A.killd]
  cases hh : x.hitd k k2 with
  | true => exact .any _
  | false => exact take_rep _ _ h hh
theorem take_inv {cx : Cx} {E : Env} {st : State} {w : World} {t k k2 b2 cap2 es2 : Nat} {real2 : Prop} {G : Nat → Prop} {o : O} {ys : List D} (hi : Inv cx E st.objs w) (hvk : cx.vk k2 = false) (hkk : k ≠ k2)
    (hG : ∀ b, G b → E.fp k b) (ho : ObjRep (takeE E k k2 b2 cap2 real2 G) w k o) (ho2 : ObjRep (takeE E k k2 b2 cap2 real2 G) w k2 (.row es2 ys)) (hk : (st.objs k).isSome = true) :
    Inv cx (takeE E k k2 b2 cap2 real2 G) (st.take t k o k2 es2 ys).objs w := by
  have cls : ∀ j c, (takeE E k k2 b2 cap2 real2 G).fp j c → (j = k2 ∧ G c) ∨ (j = k ∧ j ≠ k2 ∧ E.fp k c ∧ ¬ G c) ∨ (j ≠ k ∧ j ≠ k2 ∧ E.fp j c) := by
    intro j c h
    by_cases h1 : j = k2
    · simp only [takeE, if_pos h1] at h; exact .inl ⟨h1, h⟩
    · by_cases h2 : j = k
      · simp only [takeE, if_neg h1, if_pos h2] at h; exact .inr (.inl ⟨h2, h1, h⟩)
      · simp only [takeE, if_neg h1, if_neg h2] at h; exact .inr (.inr ⟨h2, h1, h⟩)
  have clE : ∀ j c, (takeE E k k2 b2 cap2 real2 G).fp j c → ∃ j', E.fp j' c := by
    intro j c h
    rcases cls j c h with ⟨_, h⟩ | ⟨_, _, h, _⟩ | ⟨_, _, h⟩
    · exact ⟨k, hG c h⟩
    · exact ⟨k, h⟩
    · exact ⟨j, h⟩
  refine ⟨fun j oo h => ?_, fun j h c hc => ?_, fun j j' c h h' => ?_, fun j c h => ?_, hi.rd, hi.frame, hi.size, hi.os, hi.tape, hi.output, hi.R0, hi.tk0, fun j hj => ?_, hi.nd, fun c hc => ?_⟩
  · simp only [State.take] at h
    cases hb2 : Nat.beq j k2 with
    | true => rw [hb2, cond_true] at h; injection h with h; subst h; rw [beq_iff.1 hb2]; exact ho2
    | false =>
      rw [hb2, cond_false] at h
      have hj2 := beq_false' hb2
      cases hb : Nat.beq j k with
      | true => rw [hb, cond_true] at h; injection h with h; subst h; rw [beq_iff.1 hb]; exact ho
      | false =>
        have hj := beq_false' hb
        rw [hb, cond_false] at h
        obtain ⟨o', h3, rfl⟩ := Option.map_eq_some_iff.1 h
        have hob := hi.obj _ _ h3
        have e1 : (takeE E k k2 b2 cap2 real2 G).bl j = E.bl j := by simp only [takeE, if_neg hj2]
        have e2 : (takeE E k k2 b2 cap2 real2 G).fp j = E.fp j := by simp only [takeE, if_neg hj2, if_neg hj]
        have e3 : (takeE E k k2 b2 cap2 real2 G).real j = E.real j := by simp only [takeE, if_neg hj2]
        have e4 : (takeE E k k2 b2 cap2 real2 G).cap j = E.cap j := by simp only [takeE, if_neg hj2]
        cases hob with
        | var cs c ty hh hs hff hrr =>
          refine .var _ c ty (by rw [e1]; exact hh) (by simpa using hs) (by rw [e1, e2]; exact hff) fun i hi' => ?_
          simp only [List.length_map] at hi'
          simp only [List.getElem_map]
          exact take_killd (hrr i hi')
        | rownil es hr => exact .rownil es (by rw [e3]; exact hr)
        | row es xs hreal hown => exact .row es xs (by rw [e3]; exact hreal) (by rw [e1, e2, e4]; exact hown)
        | lp l r sl hb hff hh hrr =>
          refine .lp l r _ (by rw [e1]; exact hb) (by rw [e2]; exact hff) hh fun t => ?_
          rw [slotL_map (f := A.killd _ _) rfl]
          exact take_killd (hrr t)
  · simp only [State.take] at h
    cases hb2 : Nat.beq j k2 with
    | true => rw [hb2, cond_true] at h; cases h
    | false =>
      rw [hb2, cond_false] at h
      cases hb : Nat.beq j k with
      | true => rw [hb, cond_true] at h; cases h
      | false =>
        rw [hb, cond_false, Option.map_eq_none_iff] at h
        rcases cls j c hc with ⟨e, _⟩ | ⟨e, _⟩ | ⟨_, _, h3⟩
        · exact beq_false' hb2 e
        · exact beq_false' hb e
        · exact hi.dead j h c h3
  · rcases cls j c h with ⟨rfl, hf⟩ | ⟨rfl, h2, hf, hn⟩ | ⟨h1, h2, hf⟩ <;> rcases cls j' c h' with ⟨rfl, hf'⟩ | ⟨rfl, h2', hf', hn'⟩ | ⟨h1', h2', hf'⟩
    · rfl
    · exact absurd hf hn'
    · exact absurd (hi.disj _ _ c (hG c hf) hf').symm h1'
    · exact absurd hf' hn
    · rfl
    · exact hi.disj _ _ c hf hf'
    · exact absurd (hi.disj _ _ c (hG c hf') hf).symm h1
    · exact hi.disj _ _ c hf hf'
    · exact hi.disj _ _ c hf hf'
  · obtain ⟨j', h'⟩ := clE j c h; exact hi.own j' c h'
  · have : j ≠ k2 := fun e => by rw [e, hvk] at hj; cases hj
    simp only [takeE, if_neg this]
    exact hi.bl0 j hj
  · obtain ⟨m1, m2⟩ := hi.mks c hc
    exact ⟨fun j h => by obtain ⟨j', h'⟩ := clE j c h; exact m1 j' h', m2⟩
section
variable {cx : Cx} {Q : Exit → State → Prop} {st : State} {ops : Array Oper} {rest : List Oper} {o : Oper}
theorem aw_loopO {c : Code} (h : aw cx c (AThen (fun _ => False) Q) st) : aw cx (.loop c) Q st := by
  refine aw_loop (α := Unit) (fun _ s => s = st) (fun _ => 0) () rfl ?_
  rintro x s rfl
  refine aw_mono h ?_
  intro e s' h
  cases e with
  | normal => exact h.elim
  | _ => exact h
theorem take_op {X : Operand} {t : TypeId} {d : TypeDesc} {k es i oo es2 : Nat} {xs ys : List D} {x x' : D} (k2 tt : Nat) {V : State} {rs : List Nat} {E : Env} {a : Act} {w : World} (ho : o.op = .load t X)
    (hvk : cx.vk k2 = false) (hkk : Nat.beq k k2 = false) (ht : cx.P.underlying t = some d) (hd : aggD d = false) (hinv : Inv (cx.at rs) E st.objs w) (hv : ∀ t, Rep E w (a.tmps.getD t undef) (V.slots t))
    (hx : Ev V true X (.pe k es i oo)) (hk : st.objs k = some (.row es xs)) (hi : xs[i]? = some x) (hr : x.cells[oo]? = some (.sl es2 ys)) (hc : x'.cells = x.cells.set oo .hole) :
    ∃ u E', (execOp a.eval o).run cx.P w = .ok (.value u) w ∧ Inv (cx.at rs) E' (st.take tt k (.row es (xs.set i x')) k2 es2 ys).objs w ∧ Rep E' w u (.row k2 es2 0 ys.length) ∧ ∀ x u', Rep E w u' x → x.hitd k k2 = false → Rep E' w u' x := by
  have hp := hx rfl E w a hv
  generalize hv : a.eval X = v at hp
  cases hp with
  | pe _ _ _ _ hreal =>
  have hob := hinv.obj _ _ hk
  cases hob with
  | rownil _ hr' => exact absurd hreal hr'
  | row _ _ _ hown =>
  obtain ⟨hlt, hxi⟩ := getElem_eq hi
  obtain ⟨hlt2, hxo⟩ := getElem_eq hr
  obtain ⟨c, ty, G, hb, hh, hcs, hcap, hes, hor, hG, hdj⟩ := own_row hown (by omega)
  have hkk' := beq_false' hkk
  have hxe : x.cells.length = es := by rw [← hxi]; exact hes i hlt
  have hcell : w.cell? ⟨E.bl k, i * es + oo, none⟩ = some (c.getD (i * es + oo) undef) := cell_of_heap hh (by
    rw [hcs]; exact Nat.lt_of_lt_of_le (mul_add_lt hlt (by omega)) (Nat.mul_le_mul_right _ hcap))
  have hown2 : Own w (G i oo) (c.getD (i * es + oo) undef) (.sl es2 ys) := by
    have := hor i hlt oo (by rw [hxi]; exact hlt2)
    simp only [hxi, hxo] at this
    exact this
  have hrun := run_load1 (P := cx.P) ht hd hcell ⟨X, ho⟩ a (fun X' hX => by rw [ho] at hX; injection hX with _ hX; subst hX; exact hv)
  -- what is taken, and where it lies
  obtain ⟨b2, cap2, real2, G2, hG2, hone, hobj2, hrep2⟩ : ∃ b2 cap2 real2 G2, (∀ y, G2 y → G i oo y) ∧ (c.getD (i * es + oo) undef).cells = #[c.getD (i * es + oo) undef] ∧
      ObjRep (takeE E k k2 b2 cap2 real2 G2) w k2 (.row es2 ys) ∧ Rep (takeE E k k2 b2 cap2 real2 G2) w (c.getD (i * es + oo) undef) (.row k2 es2 0 ys.length) := by
    generalize c.getD (i * es + oo) undef = u at hown2
    cases hown2 with
    | nil _ ad =>
      refine ⟨0, 0, False, fun _ => False, fun _ h => h.elim, rfl, .rownil _ (by simp [takeE]), .rownil k2 es2 ad (by simp [takeE])⟩
    | sl _ b cap _ _ c' ty' G' hb' hh' hsz' hcap' hes' hor' hG' hd' =>
      refine ⟨b, cap, True, G i oo, fun _ h => h, rfl, ?_, row0_rep (by simp [takeE]) (by simp [takeE]) (by simp [takeE])⟩
      refine .row es2 ys (by simp [takeE]) ?_
      have e1 : (takeE E k k2 b cap True (G i oo)).fp k2 = G i oo := by simp [takeE]
      have e2 : (takeE E k k2 b cap True (G i oo)).bl k2 = b := by simp [takeE]
      have e3 : (takeE E k k2 b cap True (G i oo)).cap k2 = cap := by simp [takeE]
      rw [e1, e2, e3]
      exact .sl _ b cap es2 ys c' ty' G' hb' hh' hsz' hcap' hes' hor' hG' hd'
  refine ⟨_, takeE E k k2 b2 cap2 real2 G2, hrun, take_inv hinv hvk hkk' (fun y hy => (hG i oo y (hG2 y hy)).1) ?_ hobj2 (by rw [hk]; rfl), hrep2, fun x u' h hh => take_rep x u' h hh⟩
  have e1 : (takeE E k k2 b2 cap2 real2 G2).fp k = fun b => E.fp k b ∧ ¬ G2 b := by simp [takeE, hkk']
  have e2 : (takeE E k k2 b2 cap2 real2 G2).bl k = E.bl k := by simp [takeE, hkk']
  have e3 : (takeE E k k2 b2 cap2 real2 G2).cap k = E.cap k := by simp [takeE, hkk']
  have e4 : (takeE E k k2 b2 cap2 real2 G2).real k = E.real k := by simp [takeE, hkk']
  refine .row es _ (by rw [e4]; exact hreal) ?_
  rw [e1, e2, e3]
  refine .sl _ (E.bl k) (E.cap k) es (xs.set i x') c ty (fun a' b' y => ¬ (a' = i ∧ b' = oo) ∧ G a' b' y) ⟨hb, fun hg2 => (hG i oo _ (hG2 _ hg2)).2 rfl⟩ hh hcs (by simpa using hcap) (fun a' ha => ?_) (fun a' ha b' hb' => ?_) (fun a' b' y hy => ⟨⟨(hG a' b' y hy.2).1, fun hg2 => hy.1 (hdj _ _ _ _ y hy.2 (hG2 y hg2))⟩, (hG a' b' y hy.2).2⟩) (fun a1 b1 a2 b2 y hy hy' => hdj _ _ _ _ y hy.2 hy'.2)
  · rw [List.getElem_set]
    split
    · rw [hc, List.length_set]; exact hxe
    · exact hes _ _
  · have ha' : a' < xs.length := by simpa using ha
    by_cases hai : a' = i
    · subst hai
      have e : (xs.set a' x')[a'] = x' := List.getElem_set_self _
      simp only [e] at hb' ⊢
      have hbx : b' < x.cells.length := by rw [hc, List.length_set] at hb'; exact hb'
      by_cases hbo : b' = oo
      · subst hbo
        have e5 : x'.cells[b'] = .hole := by simp only [hc, List.getElem_set_self]
        rw [e5]
        exact .hole _ _ hone
      · have e5 : x'.cells[b'] = x.cells[b'] := by simp only [hc, List.getElem_set_ne (Ne.symm hbo)]
        rw [e5]
        have := hor a' hlt b' (by rw [hxi]; exact hbx)
        simp only [hxi] at this
        exact this.mono _ (fun y hy => ⟨fun e => hbo e.2, hy⟩) fun _ _ => rfl
    · have e : (xs.set i x')[a'] = xs[a'] := List.getElem_set_ne (Ne.symm hai) _
      simp only [e] at hb' ⊢
      exact (hor a' ha' b' hb').mono _ (fun y hy => ⟨fun e => hai e.1, hy⟩) fun _ _ => rfl
theorem al_take {X : Operand} {t : TypeId} {d : TypeDesc} {k es i oo tt es2 : Nat} {xs ys : List D} {x x' : D} (k2 : Nat) (hg : o.guard = none) (ho : o.op = .load t X) (hdst : o.dst = some tt) (hdN : Nat.blt tt cx.N = true)
    (hvk : cx.vk k2 = false) (hkk : Nat.beq k k2 = false) (ht : cx.P.underlying t = some d) (hd : aggD d = false)
    (hx : Ev st true X (.pe k es i oo)) (hk : st.objs k = some (.row es xs)) (hi : xs[i]? = some x) (hr : x.cells[oo]? = some (.sl es2 ys)) (hc : x'.cells = x.cells.set oo .hole)
    (h : al cx ops Q rest (st.take tt k (.row es (xs.set i x')) k2 es2 ys)) : al cx ops Q (o :: rest) st := by
  intro a w hs
  refine wpListIn_plain hg fun K hK => ?_
  obtain ⟨rs, h0, h1, E, hinv, hrr⟩ := hs
  have hdN' : tt < cx.N := Nat.blt_eq ▸ hdN
  obtain ⟨u, E', hrun, hi', hrep2, hrep⟩ := take_op k2 tt ho hvk hkk ht hd hinv hrr hx hk hi hr hc
  refine wp_value hrun (hK _ _ ?_)
  rw [hdst]
  refine h _ _ ⟨rs, h0, by simp [Act.put, h1], E', hi', fun t' => ?_⟩
  simp only [Act.put, getD_put (by rw [h1]; exact hdN'), State.take]
  by_cases ht' : t' = tt
  · subst ht'; simp only [if_true, beq_iff.2 rfl, cond_true]; exact hrep2
  · rw [if_neg ht']
    have : Nat.beq t' tt = false := by cases hb : Nat.beq t' tt with | false => rfl | true => exact absurd (Nat.eq_of_beq_eq_true hb) ht'
    simp only [this, cond_false]
    have := hrr t'
    simp only [A.killd]
    cases hh : (st.slots t').hitd k k2 with
    | true => exact .any _
    | false => exact hrep _ _ this hh
end
end Go.AL
namespace Go.AL
section
variable {cx : Cx} {Q : Exit → State → Prop} {st : State} {ops : Array Oper} {o : Oper} {g : Bool}
theorem opM_index_row {X I : Operand} {t e : TypeId} {key es lo n : Nat} {k : IntKind} {i : Int} (ho : o.op = .indexAddr t X I)
    (ht : cx.P.underlying t = some (.slice e)) (hsz : (cx.P.info? e).map (·.size) = some es) (hx : Ev st g X (.row key es lo n)) (hi : Ev st g I (.v (.int k i)))
    (h0 : g = true → 0 ≤ i) (h1 : g = true → i < n) : OpM cx st g o (.pe key es (lo + i.toNat) 0) := by
  intro hg E a w hs
  have h := hx hg E w a hs
  have h0' := h0 hg
  have h1' := h1 hg
  generalize hv : a.eval X = v at h
  cases h with
  | rownil => omega
  | row _ _ _ _ hreal =>
    refine ⟨.pointer (some ⟨E.bl key, (lo + i.toNat) * es + 0, none⟩), fun w' => ?_, .pe key es _ 0 hreal⟩
    simp only [execOp, ho, hv, rep_int (hi hg E w a hs), Instr.indexAt, asIntOf, Sem.run_bind, Sem.run_pure, Result.andThen_ok, run_underlying ht]
    rw [if_pos ⟨h0', by omega⟩]
    simp only [Sem.run_bind, Sem.run_pure, Result.andThen_ok, run_sizeOf' hsz, add_plain', Nat.add_mul, Nat.add_zero]
theorem opM_index_dat {X I : Operand} {t e : TypeId} {r : Option Nat} {es : Nat} {xs : List D} {x : D} {k : IntKind} {i : Int} (ho : o.op = .indexAddr t X I)
    (ht : cx.P.underlying t = some (.slice e)) (hsz : (cx.P.info? e).map (·.size) = some es) (hx : Ev st g X (.dat r (.sl es xs))) (hi : Ev st g I (.v (.int k i)))
    (h0 : g = true → 0 ≤ i) (h1 : g = true → xs[i.toNat]? = some x) : OpM cx st g o (.pr r x.cells) := by
  intro hg E a w hs
  obtain ⟨hlt, rfl⟩ := getElem_eq (h1 hg)
  obtain ⟨b, oo, cap, us, hu, hb, hes, hc, hr⟩ := rep_dat_sl (hx hg E w a hs) (by omega)
  refine ⟨.pointer (some ⟨b, oo + i.toNat * es, none⟩), fun w' => ?_, .pr r _ b _ (us i.toNat) hb (fun j hj => hc _ _ hlt (by rw [hes _ hlt] at hj; exact hj)) (fun j hj => hr _ hlt j hj)⟩
  have h0' := h0 hg
  simp only [execOp, ho, hu, rep_int (hi hg E w a hs), Instr.indexAt, asIntOf, Sem.run_bind, Sem.run_pure, Result.andThen_ok, run_underlying ht]
  rw [if_pos ⟨h0', by omega⟩]
  simp only [Sem.run_bind, Sem.run_pure, Result.andThen_ok, run_sizeOf' hsz, add_plain']
def apartAll (ops : Array Oper) (listed : Array Bool) (i : Nat) : Bool :=
  (List.range ops.size).all fun j => Nat.beq j i || listed.getD j true || edge ops j i || ((ops[i]?).bind fun oi => (ops[j]?).map fun oj => oi.apart ops oj).getD true
theorem ad_free {i d fuel : Nat} {listed : Array Bool} {r : A} (hr : inL (readyL ops listed) i = true) (ho : ops[i]? = some o) (hd : o.dst = some d) (hdN : Nat.blt d cx.N = true) (hap : apartAll ops listed i = true)
    (hsel : noSel ops = true) (hnd : noDefer ops = true) (hQ : ∀ c s, ¬ Q (.panic c) s) (hf : FreeD cx ops st o r) (h : ad cx ops fuel (listed.setIfInBounds i true) Q (st.put d r)) : ad cx ops (fuel + 1) listed Q st := by
  intro a w hs
  obtain ⟨rs, h0, h1, E, hi, hrr⟩ := hs
  obtain ⟨u, hy, hu⟩ := hf E a w hrr h1
  refine any_first ho (noSel_spec hsel) (noDefer_spec hnd) (fun c a' w' ⟨s, hs, _⟩ => absurd hs (hQ c s)) fuel listed a w ?_ (by rw [readyL_eq]; exact inL_iff.1 hr) hy ?_
  · intro j oj hoj hji hjun hno
    have := List.all_eq_true.1 hap j (List.mem_range.2 (Array.getElem?_eq_some_iff.1 hoj).1)
    simp only [Bool.or_eq_true] at this
    rcases this with ((h | h) | h) | h
    · exact absurd (beq_iff.1 h) hji
    · rw [hjun] at h; cases h
    · obtain ⟨o', ho', e, he, hbe, hon⟩ := edge_iff.1 h
      rw [hoj] at ho'; cases ho'
      exact absurd hon (hno e he hbe)
    · rw [ho, hoj] at h; simpa using h
  · rw [hd]
    refine h _ _ ⟨rs, h0, by simp [Act.put, h1], E, hi, fun t => ?_⟩
    have hdN' : d < cx.N := Nat.blt_eq ▸ hdN
    simp only [Act.put, getD_put (by rw [h1]; exact hdN'), State.put]
    by_cases ht : t = d
    · subst ht; simp; exact hu
    · rw [if_neg ht]
      have : Nat.beq t d = false := by cases hb : Nat.beq t d with | false => rfl | true => exact absurd (Nat.eq_of_beq_eq_true hb) ht
      simp only [this, cond_false]; exact hrr t
end
end Go.AL
namespace Go.AL
open Go.Proofs
theorem u75 : Tryz.prog.underlying 75 = some Tryz.t74.desc := by kernel_rfl
theorem s75 : (Tryz.prog.info? 75).map (·.size) = some 8 := by kernel_rfl
theorem z75 : (Tryz.prog.info? 75).bind (·.zero) = Tryz.t75.zero := by kernel_rfl
theorem b75 : ((Tryz.prog.info? 75).map fun i => Nat.ble i.bytes 1000) = some true := by kernel_rfl
theorem e83 : Enters Tryz.prog 83 := enters_of Tryz.func83 (by kernel_rfl) (by kernel_rfl)
set_option maxRecDepth 100000 in
set_option maxHeartbeats 4000000 in
theorem c83n (n : Int) : Ok Tryz.prog 83 [.v (.int .i64 n), .prv [.v (.int .i64 0)], .prv [.nil]] [] (.v (.int .i64 0)) [] := by
  refine ok_of e83 Tryz.func83 rfl (by kernel_rfl) ?_
  intro cx hP hro hN hvk
  obtain ⟨P, ro, w0, Bin, N, R0, tk0, bl0, vk⟩ := cx
  subst hP hro hN
  have hvkd := vkd_of hvk
  refine aw_seq ?_
  refine aw_region ?_
  refine al_op rfl rfl rfl (opP_assign rfl (ev_const rfl)) ?_
  refine al_nil ?_
  refine aw_seq ?_
  refine aw_seq ?_
  refine aw_region ?_
  refine al_op rfl rfl rfl (opP_load_prv rfl u3 rfl (ev_tmp rfl)) ?_
  refine al_op rfl rfl rfl (opP_load_prv rfl u22 rfl (ev_tmp rfl)) ?_
  refine al_op rfl rfl rfl (opP_len rfl u22 (ev_tmp rfl) (by first | exact lenA_ints | exact lenA_map | rfl)) ?_
  refine al_op rfl rfl rfl (opP_min rfl (ev_tmp rfl) (ev_const rfl)) ?_
  refine al_op rfl rfl rfl (opP_bin rfl (ev_tmp rfl) (ev_tmp rfl) rfl) ?_
  refine al_nil ?_
  refine aw_condS rfl (fun h1 => ?_) (fun h1 => ?_)
  · exfalso
    simp at h1
  refine aw_seq ?_
  refine aw_region ?_
  refine al_op rfl rfl rfl (opP_assign rfl (ev_const rfl)) ?_
  refine al_nil ?_
  refine aw_ret ?_
  exact ret_id _ (.tmp rfl .nil) rfl trivial rfl rfl
theorem e40 : Enters Tryz.prog 40 := enters_of Tryz.func40 (by kernel_rfl) (by kernel_rfl)
set_option maxRecDepth 100000 in
set_option maxHeartbeats 4000000 in
theorem c40n : Ok Tryz.prog 40 [.nil] [] (.clo 83 [.pt 40001 0, .pt 40002 0]) [(40001, .var [.v (.int .i64 0)]), (40002, .var [.nil])] := by
  refine ok_of e40 Tryz.func40 rfl (by kernel_rfl) ?_
  intro cx hP hro hN hvk
  obtain ⟨P, ro, w0, Bin, N, R0, tk0, bl0, vk⟩ := cx
  subst hP hro hN
  have hvkd := vkd_of hvk
  refine aw_seq ?_
  refine aw_region ?_
  refine al_opc (k := 40002) rfl rfl rfl ((hvk _).trans rfl) (opC_box rfl (ev_tmp rfl) rfl) ?_
  refine al_op rfl rfl rfl (opP_assign rfl (ev_const rfl)) ?_
  refine al_nil ?_
  refine aw_seq ?_
  refine aw_region ?_
  refine al_opc (k := 40001) rfl rfl rfl ((hvk _).trans rfl) (opC_alloc rfl z3) ?_
  refine al_store_pt rfl rfl rfl s3 (ev_tmp rfl) (ev_const rfl) rfl rfl rfl rfl rfl rfl ?_
  refine al_nil ?_
  refine aw_seq ?_
  refine aw_region ?_
  refine al_op rfl rfl rfl (opP_makeFunc rfl (.cons (ev_tmp rfl) (.cons (ev_tmp rfl) .nil))) ?_
  refine al_op rfl rfl rfl (opP_assign rfl (ev_tmp rfl)) ?_
  refine al_nil ?_
  refine aw_ret ?_
  exact ret_id ([_]) (.tmp rfl .nil) rfl (by repeat (first | exact trivial | refine ⟨rfl, ?_⟩)) rfl rfl
theorem e76 : Enters Tryz.prog 76 := enters_of Tryz.func76 (by kernel_rfl) (by kernel_rfl)
set_option maxRecDepth 100000 in
set_option maxHeartbeats 4000000 in
theorem c76n : Ok Tryz.prog 76 [.pt 1 0] [(1, .var [.tok 1 0, .tok 1 1, .tok 1 2, .tok 1 3, .nil, .tok 1 5, .tok 1 6, .tok 1 7])] (.tup []) [(1, .var [.tok 1 0, .tok 1 1, .tok 1 2, .tok 1 3, .row 76001 1 0 1, .tok 1 5, .tok 1 6, .tok 1 7]), (76001, .row 1 [.sl 6 []])] := by
  refine ok_of e76 Tryz.func76 rfl (by kernel_rfl) ?_
  intro cx hP hro hN hvk
  obtain ⟨P, ro, w0, Bin, N, R0, tk0, bl0, vk⟩ := cx
  subst hP hro hN
  have hvkd := vkd_of hvk
  refine aw_region ?_
  refine al_op rfl rfl rfl (opP_move rfl (ev_tmp rfl)) ?_
  refine al_op rfl rfl rfl (opP_move rfl (ev_tmp rfl)) ?_
  refine al_op rfl rfl rfl (opP_nilCheck rfl (ev_tmp rfl) rfl) ?_
  refine al_op rfl rfl rfl (opP_fieldAddr rfl (ev_tmp rfl) u75 rfl rfl s27 rfl) ?_
  refine al_op rfl rfl rfl (opP_fieldAddr rfl (ev_tmp rfl) u27 rfl rfl s25 rfl) ?_
  refine al_op rfl rfl rfl (opP_load_pt rfl u25 rfl (ev_tmp rfl) rfl rfl) ?_
  refine al_opc (k := 101) rfl rfl rfl ((hvk _).trans rfl) (opC_buildSlice (ds := [.sl 6 []]) rfl u25 s35 z35 rfl rfl (.cons (ev_const rfl) .nil) rfl rfl (.cons (.nil 6) .nil) rfl rfl rfl) ?_
  refine al_opc rfl rfl rfl ((hvk _).trans rfl) (opC_append rfl u25 s35 z35 rfl b35 (ev_tmp rfl) (ev_tmp rfl) (.nil 76001 1) (.row 101 1 _ _ rfl rfl) rfl rfl (by simp) rfl) ?_
  refine al_op rfl rfl rfl (opP_nilCheck rfl (ev_tmp rfl) rfl) ?_
  refine al_op rfl rfl rfl (opP_fieldAddr rfl (ev_tmp rfl) u75 rfl rfl s27 rfl) ?_
  refine al_op rfl rfl rfl (opP_fieldAddr rfl (ev_tmp rfl) u27 rfl rfl s25 rfl) ?_
  refine al_store_pt rfl rfl rfl s25 (ev_tmp rfl) (ev_tmp rfl) rfl rfl rfl rfl rfl rfl ?_
  refine al_nil ?_
  exact end_id _ .nil rfl (by repeat (first | exact trivial | refine ⟨rfl, ?_⟩)) rfl rfl
theorem e35 : Enters Tryz.prog 35 := enters_of Tryz.func35 (by kernel_rfl) (by kernel_rfl)
set_option maxRecDepth 100000 in
set_option maxHeartbeats 4000000 in
theorem c35n (n : Int) : Ok Tryz.prog 35 [.prv [.clo 83 [.prv [.v (.int .i64 0)], .prv [.nil]], .any, .any, .any, .any, .any, .any, .any], .v (.int .i64 n)] [] (.tup []) [] := by
  refine ok_of e35 Tryz.func35 rfl (by kernel_rfl) ?_
  intro cx hP hro hN hvk
  obtain ⟨P, ro, w0, Bin, N, R0, tk0, bl0, vk⟩ := cx
  subst hP hro hN
  have hvkd := vkd_of hvk
  refine aw_seq ?_
  refine aw_region ?_
  refine al_op rfl rfl rfl (opP_move rfl (ev_tmp rfl)) ?_
  refine al_op rfl rfl rfl (opP_nilCheck rfl (ev_tmp rfl) rfl) ?_
  refine al_op rfl rfl rfl (opP_fieldAddr rfl (ev_tmp rfl) u75 rfl rfl s73 rfl) ?_
  refine al_op rfl rfl rfl (opP_load_prv rfl u73 rfl (ev_tmp rfl)) ?_
  refine al_op rfl rfl rfl (opP_move rfl (ev_tmp rfl)) ?_
  refine al_op rfl rfl rfl (opP_bin rfl (ev_tmp rfl) (ev_const rfl) rfl) ?_
  refine al_call id rfl rfl rfl (callOf_clo rfl (ev_tmp rfl) (.cons (ev_tmp rfl) .nil)) (c83n _) (by repeat' (first | refine Vw.ptOf rfl rfl rfl ?_ | refine Vw.prvOf ?_ | refine Vw.cloOf ?_ | constructor)) (fun _ h => absurd h (by simp)) rfl rfl rfl (fun _ h => absurd h (by simp)) ?_
  refine al_op rfl rfl rfl (opP_move rfl (ev_const rfl)) ?_
  refine al_nil ?_
  refine aw_block ?_
  refine aw_loopO ?_
  refine aw_seq ?_
  refine aw_region ?_
  refine al_op rfl rfl rfl (opP_bin rfl (ev_tmp rfl) (ev_tmp rfl) rfl) ?_
  refine al_nil ?_
  refine aw_seq ?_
  refine aw_cond rfl (fun h1 => ?_) (fun h1 => ?_)
  · exfalso
    simp at h1
  refine aw_exit ?_
  exact end_id _ .nil rfl trivial rfl rfl
theorem e79 : Enters Tryz.prog 79 := enters_of Tryz.func79 (by kernel_rfl) (by kernel_rfl)
set_option maxRecDepth 100000 in
set_option maxHeartbeats 4000000 in
theorem c79n (op fl imm : Int) : Ok Tryz.prog 79 [.pt 1 0, .st [.v (.int .i64 op), .v (.int .i64 0), .v (.int .i64 fl), .nil, .v (.int .u32 imm), .nil]] [(1, .var [.tok 1 0, .tok 1 1, .tok 1 2, .tok 1 3, .row 2 1 0 1, .row 3 1 0 0, .tok 1 6, .tok 1 7]), (2, .row 1 [.sl 6 []]), (3, .row 1 [])] (.v (.int .i64 0)) [(1, .var [.tok 1 0, .tok 1 1, .tok 1 2, .tok 1 3, .row 2 1 0 1, .row 3 1 0 1, .tok 1 6, .tok 1 7]), (2, .row 1 [.sl 6 [instD ⟨op, 0, fl, [], imm, []⟩]]), (3, .row 1 [.int .i64 0])] := by
  refine ok_of e79 Tryz.func79 rfl (by kernel_rfl) ?_
  intro cx hP hro hN hvk
  obtain ⟨P, ro, w0, Bin, N, R0, tk0, bl0, vk⟩ := cx
  subst hP hro hN
  have hvkd := vkd_of hvk
  refine aw_seq ?_
  refine aw_region ?_
  refine al_opc (k := 101) rfl rfl rfl ((hvk _).trans rfl) (opC_box rfl (ev_tmp rfl) rfl) ?_
  refine al_op rfl rfl rfl (opP_assign rfl (ev_const rfl)) ?_
  refine al_nil ?_
  refine aw_seq ?_
  refine aw_region ?_
  refine al_op rfl rfl rfl (opP_move rfl (ev_tmp rfl)) ?_
  refine al_op rfl rfl rfl (opP_nilCheck rfl (ev_tmp rfl) rfl) ?_
  refine al_op rfl rfl rfl (opP_fieldAddr rfl (ev_tmp rfl) u75 rfl rfl s27 rfl) ?_
  refine al_op rfl rfl rfl (opP_fieldAddr rfl (ev_tmp rfl) u27 rfl rfl s25 rfl) ?_
  refine al_op rfl rfl rfl (opP_load_pt rfl u25 rfl (ev_tmp rfl) rfl rfl) ?_
  refine al_op rfl rfl rfl (opP_len rfl u25 (ev_tmp rfl) (by first | exact lenA_ints | exact lenA_map | rfl)) ?_
  refine al_op rfl rfl rfl (opP_bin rfl (ev_tmp rfl) (ev_const rfl) rfl) ?_
  refine al_op rfl rfl rfl (opP_assign rfl (ev_tmp rfl)) ?_
  refine al_nil ?_
  refine aw_seq' (α := Unit) (fun _ => [(0, .pt 1 0), (3, .pt 101 0), (4, .v (.int .i64 0)), (5, .v (.int .i64 0))]) (fun _ => [(1, .var [.tok 1 0, .tok 1 1, .tok 1 2, .tok 1 3, .row 2 1 0 1, .row 3 1 0 0, .tok 1 6, .tok 1 7]), (101, .var [.v (.int .i64 op), .v (.int .i64 0), .v (.int .i64 fl), .nil, .v (.int .u32 imm), .nil]), (2, .row 1 [.sl 6 [.agg [.int .i64 op, .int .i64 0, .int .i64 fl, .sl 1 [], .int .u32 imm, .sl 1 []]]]), (3, .row 1 [])]) (fun _ => True) ?_ ?_
  · skip
    refine aw_draw mixed ?_
    refine ad_free (i := 0) rfl rfl rfl rfl rfl rfl rfl (by intro c s h; first | exact h | (obtain ⟨_, _, h, _⟩ := h; exact h)) (freeD_op rfl (opM_move rfl (ev_tmp rfl))) ?_
    refine ad_free (i := 1) rfl rfl rfl rfl rfl rfl rfl (by intro c s h; first | exact h | (obtain ⟨_, _, h, _⟩ := h; exact h)) (freeD_op rfl (opM_nilCheck rfl (ev_tmp rfl) rfl)) ?_
    refine ad_free (i := 2) rfl rfl rfl rfl rfl rfl rfl (by intro c s h; first | exact h | (obtain ⟨_, _, h, _⟩ := h; exact h)) (freeD_op rfl (opM_fieldAddr rfl (ev_tmp rfl) u75 rfl rfl s27 rfl)) ?_
    refine ad_free (i := 3) rfl rfl rfl rfl rfl rfl rfl (by intro c s h; first | exact h | (obtain ⟨_, _, h, _⟩ := h; exact h)) (freeD_op rfl (opM_fieldAddr rfl (ev_tmp rfl) u27 rfl rfl s25 rfl)) ?_
    refine ad_free (i := 5) rfl rfl rfl rfl rfl rfl rfl (by intro c s h; first | exact h | (obtain ⟨_, _, h, _⟩ := h; exact h)) (freeD_op rfl (opM_move rfl (ev_tmp rfl))) ?_
    refine ad_free (i := 6) rfl rfl rfl rfl rfl rfl rfl (by intro c s h; first | exact h | (obtain ⟨_, _, h, _⟩ := h; exact h)) (freeD_op rfl (opM_move rfl (ev_tmp rfl))) ?_
    refine ad_free (i := 7) rfl rfl rfl rfl rfl rfl rfl (by intro c s h; first | exact h | (obtain ⟨_, _, h, _⟩ := h; exact h)) (freeD_op rfl (opM_nilCheck rfl (ev_tmp rfl) rfl)) ?_
    refine ad_free (i := 8) rfl rfl rfl rfl rfl rfl rfl (by intro c s h; first | exact h | (obtain ⟨_, _, h, _⟩ := h; exact h)) (freeD_op rfl (opM_fieldAddr rfl (ev_tmp rfl) u75 rfl rfl s27 rfl)) ?_
    refine ad_free (i := 9) rfl rfl rfl rfl rfl rfl rfl (by intro c s h; first | exact h | (obtain ⟨_, _, h, _⟩ := h; exact h)) (freeD_op rfl (opM_fieldAddr rfl (ev_tmp rfl) u27 rfl rfl s25 rfl)) ?_
    refine ad_free (i := 11) rfl rfl rfl rfl rfl rfl rfl (by intro c s h; first | exact h | (obtain ⟨_, _, h, _⟩ := h; exact h)) (freeD_op rfl (opM_move rfl (ev_tmp rfl))) ?_
    refine ad_all (l := [4, 10, 14]) rfl (by simp) (.cons rfl ?_ (.cons rfl ?_ (.cons rfl ?_ .nil)))
    · skip
      refine al_op rfl rfl rfl (opP_load_pt rfl u25 rfl (ev_tmp rfl) rfl rfl) ?_
      refine al_nil ?_
      refine ad_all (l := [10, 14]) rfl (by simp) (.cons rfl ?_ (.cons rfl ?_ .nil))
      · skip
        refine al_op rfl rfl rfl (opP_load_pt rfl u25 rfl (ev_tmp rfl) rfl rfl) ?_
        refine al_nil ?_
        refine ad_free (i := 12) rfl rfl rfl rfl rfl rfl rfl (by intro c s h; first | exact h | (obtain ⟨_, _, h, _⟩ := h; exact h)) (freeD_op rfl (opM_index_row rfl u25 s35 (ev_tmp rfl) (ev_tmp rfl) (fun _ => Int.natCast_nonneg 0) (fun _ => by decide))) ?_
        refine ad_all (l := [13, 14]) rfl (by simp) (.cons rfl ?_ (.cons rfl ?_ .nil))
        · skip
          refine al_take (x' := .hole) 202 rfl rfl rfl rfl ((hvk _).trans rfl) rfl u35 rfl (ev_tmp rfl) rfl rfl rfl rfl ?_
          refine al_nil ?_
          refine ad_one rfl rfl ?_
          refine al_op rfl rfl rfl (opP_load_ptn (cs := [.v (.int .i64 op), .v (.int .i64 0), .v (.int .i64 fl), .nil, .v (.int .u32 imm), .nil]) rfl u38 rfl s38 (ev_tmp rfl) rfl rfl) ?_
          refine al_nil ?_
          refine ad_one rfl rfl ?_
          refine al_opc (k := 203) rfl rfl rfl ((hvk _).trans rfl) (opC_buildSlice (ds := [.agg [.int .i64 op, .int .i64 0, .int .i64 fl, .sl 1 [], .int .u32 imm, .sl 1 []]]) rfl u35 s38 z38 rfl rfl (.cons (ev_tmp rfl) .nil) rfl rfl (.cons (.v _ rfl) (.cons (.v _ rfl) (.cons (.v _ rfl) (.cons (.nil 1) (.cons (.v _ rfl) (.cons (.nil 1) .nil)))))) rfl rfl rfl) ?_
          refine al_nil ?_
          refine ad_one rfl rfl ?_
          refine al_opc rfl rfl rfl ((hvk _).trans rfl) (opC_append rfl u35 s38 z38 rfl b38 (ev_tmp rfl) (ev_tmp rfl) (.row 202 6 _ _ rfl rfl) (.row 203 6 _ _ rfl rfl) rfl rfl (by simp) rfl) ?_
          refine al_nil ?_
          refine ad_free (i := 17) rfl rfl rfl rfl rfl rfl rfl (by intro c s h; first | exact h | (obtain ⟨_, _, h, _⟩ := h; exact h)) (freeD_op rfl (opM_index_row rfl u25 s35 (ev_tmp rfl) (ev_tmp rfl) (fun _ => Int.natCast_nonneg 0) (fun _ => by decide))) ?_
          refine ad_one rfl rfl ?_
          refine al_store_pe (x' := .sl 6 [.agg [.int .i64 op, .int .i64 0, .int .i64 fl, .sl 1 [], .int .u32 imm, .sl 1 []]]) (ds := [.sl 6 [.agg [.int .i64 op, .int .i64 0, .int .i64 fl, .sl 1 [], .int .u32 imm, .sl 1 []]]]) rfl rfl rfl s35 (ev_tmp rfl) (ev_tmp rfl) rfl rfl (.cons (.row 202 6 _ _ rfl rfl) .nil) rfl rfl rfl rfl rfl rfl rfl ?_
          refine al_nil ?_
          refine ad_done rfl ?_
          exact ⟨(), id, trivial, Fit.of (by repeat (first | exact trivial | refine ⟨rfl, ?_⟩)) (by repeat (first | exact trivial | refine ⟨rfl, ?_⟩)) rfl rfl⟩
        · skip
          refine al_op rfl rfl rfl (opP_load_ptn (cs := [.v (.int .i64 op), .v (.int .i64 0), .v (.int .i64 fl), .nil, .v (.int .u32 imm), .nil]) rfl u38 rfl s38 (ev_tmp rfl) rfl rfl) ?_
          refine al_nil ?_
          refine ad_all (l := [13, 15]) rfl (by simp) (.cons rfl ?_ (.cons rfl ?_ .nil))
          · skip
            refine al_take (x' := .hole) 202 rfl rfl rfl rfl ((hvk _).trans rfl) rfl u35 rfl (ev_tmp rfl) rfl rfl rfl rfl ?_
            refine al_nil ?_
            refine ad_one rfl rfl ?_
            refine al_opc (k := 203) rfl rfl rfl ((hvk _).trans rfl) (opC_buildSlice (ds := [.agg [.int .i64 op, .int .i64 0, .int .i64 fl, .sl 1 [], .int .u32 imm, .sl 1 []]]) rfl u35 s38 z38 rfl rfl (.cons (ev_tmp rfl) .nil) rfl rfl (.cons (.v _ rfl) (.cons (.v _ rfl) (.cons (.v _ rfl) (.cons (.nil 1) (.cons (.v _ rfl) (.cons (.nil 1) .nil)))))) rfl rfl rfl) ?_
            refine al_nil ?_
            refine ad_one rfl rfl ?_
            refine al_opc rfl rfl rfl ((hvk _).trans rfl) (opC_append rfl u35 s38 z38 rfl b38 (ev_tmp rfl) (ev_tmp rfl) (.row 202 6 _ _ rfl rfl) (.row 203 6 _ _ rfl rfl) rfl rfl (by simp) rfl) ?_
            refine al_nil ?_
            refine ad_free (i := 17) rfl rfl rfl rfl rfl rfl rfl (by intro c s h; first | exact h | (obtain ⟨_, _, h, _⟩ := h; exact h)) (freeD_op rfl (opM_index_row rfl u25 s35 (ev_tmp rfl) (ev_tmp rfl) (fun _ => Int.natCast_nonneg 0) (fun _ => by decide))) ?_
            refine ad_one rfl rfl ?_
            refine al_store_pe (x' := .sl 6 [.agg [.int .i64 op, .int .i64 0, .int .i64 fl, .sl 1 [], .int .u32 imm, .sl 1 []]]) (ds := [.sl 6 [.agg [.int .i64 op, .int .i64 0, .int .i64 fl, .sl 1 [], .int .u32 imm, .sl 1 []]]]) rfl rfl rfl s35 (ev_tmp rfl) (ev_tmp rfl) rfl rfl (.cons (.row 202 6 _ _ rfl rfl) .nil) rfl rfl rfl rfl rfl rfl rfl ?_
            refine al_nil ?_
            refine ad_done rfl ?_
            exact ⟨(), id, trivial, Fit.of (by repeat (first | exact trivial | refine ⟨rfl, ?_⟩)) (by repeat (first | exact trivial | refine ⟨rfl, ?_⟩)) rfl rfl⟩
          · skip
            refine al_opc (k := 203) rfl rfl rfl ((hvk _).trans rfl) (opC_buildSlice (ds := [.agg [.int .i64 op, .int .i64 0, .int .i64 fl, .sl 1 [], .int .u32 imm, .sl 1 []]]) rfl u35 s38 z38 rfl rfl (.cons (ev_tmp rfl) .nil) rfl rfl (.cons (.v _ rfl) (.cons (.v _ rfl) (.cons (.v _ rfl) (.cons (.nil 1) (.cons (.v _ rfl) (.cons (.nil 1) .nil)))))) rfl rfl rfl) ?_
            refine al_nil ?_
            refine ad_one rfl rfl ?_
            refine al_take (x' := .hole) 202 rfl rfl rfl rfl ((hvk _).trans rfl) rfl u35 rfl (ev_tmp rfl) rfl rfl rfl rfl ?_
            refine al_nil ?_
            refine ad_one rfl rfl ?_
            refine al_opc rfl rfl rfl ((hvk _).trans rfl) (opC_append rfl u35 s38 z38 rfl b38 (ev_tmp rfl) (ev_tmp rfl) (.row 202 6 _ _ rfl rfl) (.row 203 6 _ _ rfl rfl) rfl rfl (by simp) rfl) ?_
            refine al_nil ?_
            refine ad_free (i := 17) rfl rfl rfl rfl rfl rfl rfl (by intro c s h; first | exact h | (obtain ⟨_, _, h, _⟩ := h; exact h)) (freeD_op rfl (opM_index_row rfl u25 s35 (ev_tmp rfl) (ev_tmp rfl) (fun _ => Int.natCast_nonneg 0) (fun _ => by decide))) ?_
            refine ad_one rfl rfl ?_
            refine al_store_pe (x' := .sl 6 [.agg [.int .i64 op, .int .i64 0, .int .i64 fl, .sl 1 [], .int .u32 imm, .sl 1 []]]) (ds := [.sl 6 [.agg [.int .i64 op, .int .i64 0, .int .i64 fl, .sl 1 [], .int .u32 imm, .sl 1 []]]]) rfl rfl rfl s35 (ev_tmp rfl) (ev_tmp rfl) rfl rfl (.cons (.row 202 6 _ _ rfl rfl) .nil) rfl rfl rfl rfl rfl rfl rfl ?_
            refine al_nil ?_
            refine ad_done rfl ?_
            exact ⟨(), id, trivial, Fit.of (by repeat (first | exact trivial | refine ⟨rfl, ?_⟩)) (by repeat (first | exact trivial | refine ⟨rfl, ?_⟩)) rfl rfl⟩
      · skip
        refine al_op rfl rfl rfl (opP_load_ptn (cs := [.v (.int .i64 op), .v (.int .i64 0), .v (.int .i64 fl), .nil, .v (.int .u32 imm), .nil]) rfl u38 rfl s38 (ev_tmp rfl) rfl rfl) ?_
        refine al_nil ?_
        refine ad_all (l := [10, 15]) rfl (by simp) (.cons rfl ?_ (.cons rfl ?_ .nil))
        · skip
          refine al_op rfl rfl rfl (opP_load_pt rfl u25 rfl (ev_tmp rfl) rfl rfl) ?_
          refine al_nil ?_
          refine ad_free (i := 12) rfl rfl rfl rfl rfl rfl rfl (by intro c s h; first | exact h | (obtain ⟨_, _, h, _⟩ := h; exact h)) (freeD_op rfl (opM_index_row rfl u25 s35 (ev_tmp rfl) (ev_tmp rfl) (fun _ => Int.natCast_nonneg 0) (fun _ => by decide))) ?_
          refine ad_all (l := [13, 15]) rfl (by simp) (.cons rfl ?_ (.cons rfl ?_ .nil))
          · skip
            refine al_take (x' := .hole) 202 rfl rfl rfl rfl ((hvk _).trans rfl) rfl u35 rfl (ev_tmp rfl) rfl rfl rfl rfl ?_
            refine al_nil ?_
            refine ad_one rfl rfl ?_
            refine al_opc (k := 203) rfl rfl rfl ((hvk _).trans rfl) (opC_buildSlice (ds := [.agg [.int .i64 op, .int .i64 0, .int .i64 fl, .sl 1 [], .int .u32 imm, .sl 1 []]]) rfl u35 s38 z38 rfl rfl (.cons (ev_tmp rfl) .nil) rfl rfl (.cons (.v _ rfl) (.cons (.v _ rfl) (.cons (.v _ rfl) (.cons (.nil 1) (.cons (.v _ rfl) (.cons (.nil 1) .nil)))))) rfl rfl rfl) ?_
            refine al_nil ?_
            refine ad_one rfl rfl ?_
            refine al_opc rfl rfl rfl ((hvk _).trans rfl) (opC_append rfl u35 s38 z38 rfl b38 (ev_tmp rfl) (ev_tmp rfl) (.row 202 6 _ _ rfl rfl) (.row 203 6 _ _ rfl rfl) rfl rfl (by simp) rfl) ?_
            refine al_nil ?_
            refine ad_free (i := 17) rfl rfl rfl rfl rfl rfl rfl (by intro c s h; first | exact h | (obtain ⟨_, _, h, _⟩ := h; exact h)) (freeD_op rfl (opM_index_row rfl u25 s35 (ev_tmp rfl) (ev_tmp rfl) (fun _ => Int.natCast_nonneg 0) (fun _ => by decide))) ?_
            refine ad_one rfl rfl ?_
            refine al_store_pe (x' := .sl 6 [.agg [.int .i64 op, .int .i64 0, .int .i64 fl, .sl 1 [], .int .u32 imm, .sl 1 []]]) (ds := [.sl 6 [.agg [.int .i64 op, .int .i64 0, .int .i64 fl, .sl 1 [], .int .u32 imm, .sl 1 []]]]) rfl rfl rfl s35 (ev_tmp rfl) (ev_tmp rfl) rfl rfl (.cons (.row 202 6 _ _ rfl rfl) .nil) rfl rfl rfl rfl rfl rfl rfl ?_
            refine al_nil ?_
            refine ad_done rfl ?_
            exact ⟨(), id, trivial, Fit.of (by repeat (first | exact trivial | refine ⟨rfl, ?_⟩)) (by repeat (first | exact trivial | refine ⟨rfl, ?_⟩)) rfl rfl⟩
          · skip
            refine al_opc (k := 203) rfl rfl rfl ((hvk _).trans rfl) (opC_buildSlice (ds := [.agg [.int .i64 op, .int .i64 0, .int .i64 fl, .sl 1 [], .int .u32 imm, .sl 1 []]]) rfl u35 s38 z38 rfl rfl (.cons (ev_tmp rfl) .nil) rfl rfl (.cons (.v _ rfl) (.cons (.v _ rfl) (.cons (.v _ rfl) (.cons (.nil 1) (.cons (.v _ rfl) (.cons (.nil 1) .nil)))))) rfl rfl rfl) ?_
            refine al_nil ?_
            refine ad_one rfl rfl ?_
            refine al_take (x' := .hole) 202 rfl rfl rfl rfl ((hvk _).trans rfl) rfl u35 rfl (ev_tmp rfl) rfl rfl rfl rfl ?_
            refine al_nil ?_
            refine ad_one rfl rfl ?_
            refine al_opc rfl rfl rfl ((hvk _).trans rfl) (opC_append rfl u35 s38 z38 rfl b38 (ev_tmp rfl) (ev_tmp rfl) (.row 202 6 _ _ rfl rfl) (.row 203 6 _ _ rfl rfl) rfl rfl (by simp) rfl) ?_
            refine al_nil ?_
            refine ad_free (i := 17) rfl rfl rfl rfl rfl rfl rfl (by intro c s h; first | exact h | (obtain ⟨_, _, h, _⟩ := h; exact h)) (freeD_op rfl (opM_index_row rfl u25 s35 (ev_tmp rfl) (ev_tmp rfl) (fun _ => Int.natCast_nonneg 0) (fun _ => by decide))) ?_
            refine ad_one rfl rfl ?_
            refine al_store_pe (x' := .sl 6 [.agg [.int .i64 op, .int .i64 0, .int .i64 fl, .sl 1 [], .int .u32 imm, .sl 1 []]]) (ds := [.sl 6 [.agg [.int .i64 op, .int .i64 0, .int .i64 fl, .sl 1 [], .int .u32 imm, .sl 1 []]]]) rfl rfl rfl s35 (ev_tmp rfl) (ev_tmp rfl) rfl rfl (.cons (.row 202 6 _ _ rfl rfl) .nil) rfl rfl rfl rfl rfl rfl rfl ?_
            refine al_nil ?_
            refine ad_done rfl ?_
            exact ⟨(), id, trivial, Fit.of (by repeat (first | exact trivial | refine ⟨rfl, ?_⟩)) (by repeat (first | exact trivial | refine ⟨rfl, ?_⟩)) rfl rfl⟩
        · skip
          refine al_opc (k := 203) rfl rfl rfl ((hvk _).trans rfl) (opC_buildSlice (ds := [.agg [.int .i64 op, .int .i64 0, .int .i64 fl, .sl 1 [], .int .u32 imm, .sl 1 []]]) rfl u35 s38 z38 rfl rfl (.cons (ev_tmp rfl) .nil) rfl rfl (.cons (.v _ rfl) (.cons (.v _ rfl) (.cons (.v _ rfl) (.cons (.nil 1) (.cons (.v _ rfl) (.cons (.nil 1) .nil)))))) rfl rfl rfl) ?_
          refine al_nil ?_
          refine ad_one rfl rfl ?_
          refine al_op rfl rfl rfl (opP_load_pt rfl u25 rfl (ev_tmp rfl) rfl rfl) ?_
          refine al_nil ?_
          refine ad_free (i := 12) rfl rfl rfl rfl rfl rfl rfl (by intro c s h; first | exact h | (obtain ⟨_, _, h, _⟩ := h; exact h)) (freeD_op rfl (opM_index_row rfl u25 s35 (ev_tmp rfl) (ev_tmp rfl) (fun _ => Int.natCast_nonneg 0) (fun _ => by decide))) ?_
          refine ad_one rfl rfl ?_
          refine al_take (x' := .hole) 202 rfl rfl rfl rfl ((hvk _).trans rfl) rfl u35 rfl (ev_tmp rfl) rfl rfl rfl rfl ?_
          refine al_nil ?_
          refine ad_one rfl rfl ?_
          refine al_opc rfl rfl rfl ((hvk _).trans rfl) (opC_append rfl u35 s38 z38 rfl b38 (ev_tmp rfl) (ev_tmp rfl) (.row 202 6 _ _ rfl rfl) (.row 203 6 _ _ rfl rfl) rfl rfl (by simp) rfl) ?_
          refine al_nil ?_
          refine ad_free (i := 17) rfl rfl rfl rfl rfl rfl rfl (by intro c s h; first | exact h | (obtain ⟨_, _, h, _⟩ := h; exact h)) (freeD_op rfl (opM_index_row rfl u25 s35 (ev_tmp rfl) (ev_tmp rfl) (fun _ => Int.natCast_nonneg 0) (fun _ => by decide))) ?_
          refine ad_one rfl rfl ?_
          refine al_store_pe (x' := .sl 6 [.agg [.int .i64 op, .int .i64 0, .int .i64 fl, .sl 1 [], .int .u32 imm, .sl 1 []]]) (ds := [.sl 6 [.agg [.int .i64 op, .int .i64 0, .int .i64 fl, .sl 1 [], .int .u32 imm, .sl 1 []]]]) rfl rfl rfl s35 (ev_tmp rfl) (ev_tmp rfl) rfl rfl (.cons (.row 202 6 _ _ rfl rfl) .nil) rfl rfl rfl rfl rfl rfl rfl ?_
          refine al_nil ?_
          refine ad_done rfl ?_
          exact ⟨(), id, trivial, Fit.of (by repeat (first | exact trivial | refine ⟨rfl, ?_⟩)) (by repeat (first | exact trivial | refine ⟨rfl, ?_⟩)) rfl rfl⟩
    · skip
      refine al_op rfl rfl rfl (opP_load_pt rfl u25 rfl (ev_tmp rfl) rfl rfl) ?_
      refine al_nil ?_
      refine ad_free (i := 12) rfl rfl rfl rfl rfl rfl rfl (by intro c s h; first | exact h | (obtain ⟨_, _, h, _⟩ := h; exact h)) (freeD_op rfl (opM_index_row rfl u25 s35 (ev_tmp rfl) (ev_tmp rfl) (fun _ => Int.natCast_nonneg 0) (fun _ => by decide))) ?_
      refine ad_all (l := [4, 13, 14]) rfl (by simp) (.cons rfl ?_ (.cons rfl ?_ (.cons rfl ?_ .nil)))
      · skip
        refine al_op rfl rfl rfl (opP_load_pt rfl u25 rfl (ev_tmp rfl) rfl rfl) ?_
        refine al_nil ?_
        refine ad_all (l := [13, 14]) rfl (by simp) (.cons rfl ?_ (.cons rfl ?_ .nil))
        · skip
          refine al_take (x' := .hole) 202 rfl rfl rfl rfl ((hvk _).trans rfl) rfl u35 rfl (ev_tmp rfl) rfl rfl rfl rfl ?_
          refine al_nil ?_
          refine ad_one rfl rfl ?_
          refine al_op rfl rfl rfl (opP_load_ptn (cs := [.v (.int .i64 op), .v (.int .i64 0), .v (.int .i64 fl), .nil, .v (.int .u32 imm), .nil]) rfl u38 rfl s38 (ev_tmp rfl) rfl rfl) ?_
          refine al_nil ?_
          refine ad_one rfl rfl ?_
          refine al_opc (k := 203) rfl rfl rfl ((hvk _).trans rfl) (opC_buildSlice (ds := [.agg [.int .i64 op, .int .i64 0, .int .i64 fl, .sl 1 [], .int .u32 imm, .sl 1 []]]) rfl u35 s38 z38 rfl rfl (.cons (ev_tmp rfl) .nil) rfl rfl (.cons (.v _ rfl) (.cons (.v _ rfl) (.cons (.v _ rfl) (.cons (.nil 1) (.cons (.v _ rfl) (.cons (.nil 1) .nil)))))) rfl rfl rfl) ?_
          refine al_nil ?_
          refine ad_one rfl rfl ?_
          refine al_opc rfl rfl rfl ((hvk _).trans rfl) (opC_append rfl u35 s38 z38 rfl b38 (ev_tmp rfl) (ev_tmp rfl) (.row 202 6 _ _ rfl rfl) (.row 203 6 _ _ rfl rfl) rfl rfl (by simp) rfl) ?_
          refine al_nil ?_
          refine ad_free (i := 17) rfl rfl rfl rfl rfl rfl rfl (by intro c s h; first | exact h | (obtain ⟨_, _, h, _⟩ := h; exact h)) (freeD_op rfl (opM_index_row rfl u25 s35 (ev_tmp rfl) (ev_tmp rfl) (fun _ => Int.natCast_nonneg 0) (fun _ => by decide))) ?_
          refine ad_one rfl rfl ?_
          refine al_store_pe (x' := .sl 6 [.agg [.int .i64 op, .int .i64 0, .int .i64 fl, .sl 1 [], .int .u32 imm, .sl 1 []]]) (ds := [.sl 6 [.agg [.int .i64 op, .int .i64 0, .int .i64 fl, .sl 1 [], .int .u32 imm, .sl 1 []]]]) rfl rfl rfl s35 (ev_tmp rfl) (ev_tmp rfl) rfl rfl (.cons (.row 202 6 _ _ rfl rfl) .nil) rfl rfl rfl rfl rfl rfl rfl ?_
          refine al_nil ?_
          refine ad_done rfl ?_
          exact ⟨(), id, trivial, Fit.of (by repeat (first | exact trivial | refine ⟨rfl, ?_⟩)) (by repeat (first | exact trivial | refine ⟨rfl, ?_⟩)) rfl rfl⟩
        · skip
          refine al_op rfl rfl rfl (opP_load_ptn (cs := [.v (.int .i64 op), .v (.int .i64 0), .v (.int .i64 fl), .nil, .v (.int .u32 imm), .nil]) rfl u38 rfl s38 (ev_tmp rfl) rfl rfl) ?_
          refine al_nil ?_
          refine ad_all (l := [13, 15]) rfl (by simp) (.cons rfl ?_ (.cons rfl ?_ .nil))
          · skip
            refine al_take (x' := .hole) 202 rfl rfl rfl rfl ((hvk _).trans rfl) rfl u35 rfl (ev_tmp rfl) rfl rfl rfl rfl ?_
            refine al_nil ?_
            refine ad_one rfl rfl ?_
            refine al_opc (k := 203) rfl rfl rfl ((hvk _).trans rfl) (opC_buildSlice (ds := [.agg [.int .i64 op, .int .i64 0, .int .i64 fl, .sl 1 [], .int .u32 imm, .sl 1 []]]) rfl u35 s38 z38 rfl rfl (.cons (ev_tmp rfl) .nil) rfl rfl (.cons (.v _ rfl) (.cons (.v _ rfl) (.cons (.v _ rfl) (.cons (.nil 1) (.cons (.v _ rfl) (.cons (.nil 1) .nil)))))) rfl rfl rfl) ?_
            refine al_nil ?_
            refine ad_one rfl rfl ?_
            refine al_opc rfl rfl rfl ((hvk _).trans rfl) (opC_append rfl u35 s38 z38 rfl b38 (ev_tmp rfl) (ev_tmp rfl) (.row 202 6 _ _ rfl rfl) (.row 203 6 _ _ rfl rfl) rfl rfl (by simp) rfl) ?_
            refine al_nil ?_
            refine ad_free (i := 17) rfl rfl rfl rfl rfl rfl rfl (by intro c s h; first | exact h | (obtain ⟨_, _, h, _⟩ := h; exact h)) (freeD_op rfl (opM_index_row rfl u25 s35 (ev_tmp rfl) (ev_tmp rfl) (fun _ => Int.natCast_nonneg 0) (fun _ => by decide))) ?_
            refine ad_one rfl rfl ?_
            refine al_store_pe (x' := .sl 6 [.agg [.int .i64 op, .int .i64 0, .int .i64 fl, .sl 1 [], .int .u32 imm, .sl 1 []]]) (ds := [.sl 6 [.agg [.int .i64 op, .int .i64 0, .int .i64 fl, .sl 1 [], .int .u32 imm, .sl 1 []]]]) rfl rfl rfl s35 (ev_tmp rfl) (ev_tmp rfl) rfl rfl (.cons (.row 202 6 _ _ rfl rfl) .nil) rfl rfl rfl rfl rfl rfl rfl ?_
            refine al_nil ?_
            refine ad_done rfl ?_
            exact ⟨(), id, trivial, Fit.of (by repeat (first | exact trivial | refine ⟨rfl, ?_⟩)) (by repeat (first | exact trivial | refine ⟨rfl, ?_⟩)) rfl rfl⟩
          · skip
            refine al_opc (k := 203) rfl rfl rfl ((hvk _).trans rfl) (opC_buildSlice (ds := [.agg [.int .i64 op, .int .i64 0, .int .i64 fl, .sl 1 [], .int .u32 imm, .sl 1 []]]) rfl u35 s38 z38 rfl rfl (.cons (ev_tmp rfl) .nil) rfl rfl (.cons (.v _ rfl) (.cons (.v _ rfl) (.cons (.v _ rfl) (.cons (.nil 1) (.cons (.v _ rfl) (.cons (.nil 1) .nil)))))) rfl rfl rfl) ?_
            refine al_nil ?_
            refine ad_one rfl rfl ?_
            refine al_take (x' := .hole) 202 rfl rfl rfl rfl ((hvk _).trans rfl) rfl u35 rfl (ev_tmp rfl) rfl rfl rfl rfl ?_
            refine al_nil ?_
            refine ad_one rfl rfl ?_
            refine al_opc rfl rfl rfl ((hvk _).trans rfl) (opC_append rfl u35 s38 z38 rfl b38 (ev_tmp rfl) (ev_tmp rfl) (.row 202 6 _ _ rfl rfl) (.row 203 6 _ _ rfl rfl) rfl rfl (by simp) rfl) ?_
            refine al_nil ?_
            refine ad_free (i := 17) rfl rfl rfl rfl rfl rfl rfl (by intro c s h; first | exact h | (obtain ⟨_, _, h, _⟩ := h; exact h)) (freeD_op rfl (opM_index_row rfl u25 s35 (ev_tmp rfl) (ev_tmp rfl) (fun _ => Int.natCast_nonneg 0) (fun _ => by decide))) ?_
            refine ad_one rfl rfl ?_
            refine al_store_pe (x' := .sl 6 [.agg [.int .i64 op, .int .i64 0, .int .i64 fl, .sl 1 [], .int .u32 imm, .sl 1 []]]) (ds := [.sl 6 [.agg [.int .i64 op, .int .i64 0, .int .i64 fl, .sl 1 [], .int .u32 imm, .sl 1 []]]]) rfl rfl rfl s35 (ev_tmp rfl) (ev_tmp rfl) rfl rfl (.cons (.row 202 6 _ _ rfl rfl) .nil) rfl rfl rfl rfl rfl rfl rfl ?_
            refine al_nil ?_
            refine ad_done rfl ?_
            exact ⟨(), id, trivial, Fit.of (by repeat (first | exact trivial | refine ⟨rfl, ?_⟩)) (by repeat (first | exact trivial | refine ⟨rfl, ?_⟩)) rfl rfl⟩
      · skip
        refine al_take (x' := .hole) 202 rfl rfl rfl rfl ((hvk _).trans rfl) rfl u35 rfl (ev_tmp rfl) rfl rfl rfl rfl ?_
        refine al_nil ?_
        refine ad_all (l := [4, 14]) rfl (by simp) (.cons rfl ?_ (.cons rfl ?_ .nil))
        · skip
          refine al_op rfl rfl rfl (opP_load_pt rfl u25 rfl (ev_tmp rfl) rfl rfl) ?_
          refine al_nil ?_
          refine ad_one rfl rfl ?_
          refine al_op rfl rfl rfl (opP_load_ptn (cs := [.v (.int .i64 op), .v (.int .i64 0), .v (.int .i64 fl), .nil, .v (.int .u32 imm), .nil]) rfl u38 rfl s38 (ev_tmp rfl) rfl rfl) ?_
          refine al_nil ?_
          refine ad_one rfl rfl ?_
          refine al_opc (k := 203) rfl rfl rfl ((hvk _).trans rfl) (opC_buildSlice (ds := [.agg [.int .i64 op, .int .i64 0, .int .i64 fl, .sl 1 [], .int .u32 imm, .sl 1 []]]) rfl u35 s38 z38 rfl rfl (.cons (ev_tmp rfl) .nil) rfl rfl (.cons (.v _ rfl) (.cons (.v _ rfl) (.cons (.v _ rfl) (.cons (.nil 1) (.cons (.v _ rfl) (.cons (.nil 1) .nil)))))) rfl rfl rfl) ?_
          refine al_nil ?_
          refine ad_one rfl rfl ?_
          refine al_opc rfl rfl rfl ((hvk _).trans rfl) (opC_append rfl u35 s38 z38 rfl b38 (ev_tmp rfl) (ev_tmp rfl) (.row 202 6 _ _ rfl rfl) (.row 203 6 _ _ rfl rfl) rfl rfl (by simp) rfl) ?_
          refine al_nil ?_
          refine ad_free (i := 17) rfl rfl rfl rfl rfl rfl rfl (by intro c s h; first | exact h | (obtain ⟨_, _, h, _⟩ := h; exact h)) (freeD_op rfl (opM_index_row rfl u25 s35 (ev_tmp rfl) (ev_tmp rfl) (fun _ => Int.natCast_nonneg 0) (fun _ => by decide))) ?_
          refine ad_one rfl rfl ?_
          refine al_store_pe (x' := .sl 6 [.agg [.int .i64 op, .int .i64 0, .int .i64 fl, .sl 1 [], .int .u32 imm, .sl 1 []]]) (ds := [.sl 6 [.agg [.int .i64 op, .int .i64 0, .int .i64 fl, .sl 1 [], .int .u32 imm, .sl 1 []]]]) rfl rfl rfl s35 (ev_tmp rfl) (ev_tmp rfl) rfl rfl (.cons (.row 202 6 _ _ rfl rfl) .nil) rfl rfl rfl rfl rfl rfl rfl ?_
          refine al_nil ?_
          refine ad_done rfl ?_
          exact ⟨(), id, trivial, Fit.of (by repeat (first | exact trivial | refine ⟨rfl, ?_⟩)) (by repeat (first | exact trivial | refine ⟨rfl, ?_⟩)) rfl rfl⟩
        · skip
          refine al_op rfl rfl rfl (opP_load_ptn (cs := [.v (.int .i64 op), .v (.int .i64 0), .v (.int .i64 fl), .nil, .v (.int .u32 imm), .nil]) rfl u38 rfl s38 (ev_tmp rfl) rfl rfl) ?_
          refine al_nil ?_
          refine ad_all (l := [4, 15]) rfl (by simp) (.cons rfl ?_ (.cons rfl ?_ .nil))
          · skip
            refine al_op rfl rfl rfl (opP_load_pt rfl u25 rfl (ev_tmp rfl) rfl rfl) ?_
            refine al_nil ?_
            refine ad_one rfl rfl ?_
            refine al_opc (k := 203) rfl rfl rfl ((hvk _).trans rfl) (opC_buildSlice (ds := [.agg [.int .i64 op, .int .i64 0, .int .i64 fl, .sl 1 [], .int .u32 imm, .sl 1 []]]) rfl u35 s38 z38 rfl rfl (.cons (ev_tmp rfl) .nil) rfl rfl (.cons (.v _ rfl) (.cons (.v _ rfl) (.cons (.v _ rfl) (.cons (.nil 1) (.cons (.v _ rfl) (.cons (.nil 1) .nil)))))) rfl rfl rfl) ?_
            refine al_nil ?_
            refine ad_one rfl rfl ?_
            refine al_opc rfl rfl rfl ((hvk _).trans rfl) (opC_append rfl u35 s38 z38 rfl b38 (ev_tmp rfl) (ev_tmp rfl) (.row 202 6 _ _ rfl rfl) (.row 203 6 _ _ rfl rfl) rfl rfl (by simp) rfl) ?_
            refine al_nil ?_
            refine ad_free (i := 17) rfl rfl rfl rfl rfl rfl rfl (by intro c s h; first | exact h | (obtain ⟨_, _, h, _⟩ := h; exact h)) (freeD_op rfl (opM_index_row rfl u25 s35 (ev_tmp rfl) (ev_tmp rfl) (fun _ => Int.natCast_nonneg 0) (fun _ => by decide))) ?_
            refine ad_one rfl rfl ?_
            refine al_store_pe (x' := .sl 6 [.agg [.int .i64 op, .int .i64 0, .int .i64 fl, .sl 1 [], .int .u32 imm, .sl 1 []]]) (ds := [.sl 6 [.agg [.int .i64 op, .int .i64 0, .int .i64 fl, .sl 1 [], .int .u32 imm, .sl 1 []]]]) rfl rfl rfl s35 (ev_tmp rfl) (ev_tmp rfl) rfl rfl (.cons (.row 202 6 _ _ rfl rfl) .nil) rfl rfl rfl rfl rfl rfl rfl ?_
            refine al_nil ?_
            refine ad_done rfl ?_
            exact ⟨(), id, trivial, Fit.of (by repeat (first | exact trivial | refine ⟨rfl, ?_⟩)) (by repeat (first | exact trivial | refine ⟨rfl, ?_⟩)) rfl rfl⟩
          · skip
            refine al_opc (k := 203) rfl rfl rfl ((hvk _).trans rfl) (opC_buildSlice (ds := [.agg [.int .i64 op, .int .i64 0, .int .i64 fl, .sl 1 [], .int .u32 imm, .sl 1 []]]) rfl u35 s38 z38 rfl rfl (.cons (ev_tmp rfl) .nil) rfl rfl (.cons (.v _ rfl) (.cons (.v _ rfl) (.cons (.v _ rfl) (.cons (.nil 1) (.cons (.v _ rfl) (.cons (.nil 1) .nil)))))) rfl rfl rfl) ?_
            refine al_nil ?_
            refine ad_all (l := [4, 16]) rfl (by simp) (.cons rfl ?_ (.cons rfl ?_ .nil))
            · skip
              refine al_op rfl rfl rfl (opP_load_pt rfl u25 rfl (ev_tmp rfl) rfl rfl) ?_
              refine al_nil ?_
              refine ad_one rfl rfl ?_
              refine al_opc rfl rfl rfl ((hvk _).trans rfl) (opC_append rfl u35 s38 z38 rfl b38 (ev_tmp rfl) (ev_tmp rfl) (.row 202 6 _ _ rfl rfl) (.row 203 6 _ _ rfl rfl) rfl rfl (by simp) rfl) ?_
              refine al_nil ?_
              refine ad_free (i := 17) rfl rfl rfl rfl rfl rfl rfl (by intro c s h; first | exact h | (obtain ⟨_, _, h, _⟩ := h; exact h)) (freeD_op rfl (opM_index_row rfl u25 s35 (ev_tmp rfl) (ev_tmp rfl) (fun _ => Int.natCast_nonneg 0) (fun _ => by decide))) ?_
              refine ad_one rfl rfl ?_
              refine al_store_pe (x' := .sl 6 [.agg [.int .i64 op, .int .i64 0, .int .i64 fl, .sl 1 [], .int .u32 imm, .sl 1 []]]) (ds := [.sl 6 [.agg [.int .i64 op, .int .i64 0, .int .i64 fl, .sl 1 [], .int .u32 imm, .sl 1 []]]]) rfl rfl rfl s35 (ev_tmp rfl) (ev_tmp rfl) rfl rfl (.cons (.row 202 6 _ _ rfl rfl) .nil) rfl rfl rfl rfl rfl rfl rfl ?_
              refine al_nil ?_
              refine ad_done rfl ?_
              exact ⟨(), id, trivial, Fit.of (by repeat (first | exact trivial | refine ⟨rfl, ?_⟩)) (by repeat (first | exact trivial | refine ⟨rfl, ?_⟩)) rfl rfl⟩
            · skip
              refine al_opc rfl rfl rfl ((hvk _).trans rfl) (opC_append rfl u35 s38 z38 rfl b38 (ev_tmp rfl) (ev_tmp rfl) (.row 202 6 _ _ rfl rfl) (.row 203 6 _ _ rfl rfl) rfl rfl (by simp) rfl) ?_
              refine al_nil ?_
              refine ad_one rfl rfl ?_
              refine al_op rfl rfl rfl (opP_load_pt rfl u25 rfl (ev_tmp rfl) rfl rfl) ?_
              refine al_nil ?_
              refine ad_free (i := 17) rfl rfl rfl rfl rfl rfl rfl (by intro c s h; first | exact h | (obtain ⟨_, _, h, _⟩ := h; exact h)) (freeD_op rfl (opM_index_row rfl u25 s35 (ev_tmp rfl) (ev_tmp rfl) (fun _ => Int.natCast_nonneg 0) (fun _ => by decide))) ?_
              refine ad_one rfl rfl ?_
              refine al_store_pe (x' := .sl 6 [.agg [.int .i64 op, .int .i64 0, .int .i64 fl, .sl 1 [], .int .u32 imm, .sl 1 []]]) (ds := [.sl 6 [.agg [.int .i64 op, .int .i64 0, .int .i64 fl, .sl 1 [], .int .u32 imm, .sl 1 []]]]) rfl rfl rfl s35 (ev_tmp rfl) (ev_tmp rfl) rfl rfl (.cons (.row 202 6 _ _ rfl rfl) .nil) rfl rfl rfl rfl rfl rfl rfl ?_
              refine al_nil ?_
              refine ad_done rfl ?_
              exact ⟨(), id, trivial, Fit.of (by repeat (first | exact trivial | refine ⟨rfl, ?_⟩)) (by repeat (first | exact trivial | refine ⟨rfl, ?_⟩)) rfl rfl⟩
      · skip
        refine al_op rfl rfl rfl (opP_load_ptn (cs := [.v (.int .i64 op), .v (.int .i64 0), .v (.int .i64 fl), .nil, .v (.int .u32 imm), .nil]) rfl u38 rfl s38 (ev_tmp rfl) rfl rfl) ?_
        refine al_nil ?_
        refine ad_all (l := [4, 13, 15]) rfl (by simp) (.cons rfl ?_ (.cons rfl ?_ (.cons rfl ?_ .nil)))
        · skip
          refine al_op rfl rfl rfl (opP_load_pt rfl u25 rfl (ev_tmp rfl) rfl rfl) ?_
          refine al_nil ?_
          refine ad_all (l := [13, 15]) rfl (by simp) (.cons rfl ?_ (.cons rfl ?_ .nil))
          · skip
            refine al_take (x' := .hole) 202 rfl rfl rfl rfl ((hvk _).trans rfl) rfl u35 rfl (ev_tmp rfl) rfl rfl rfl rfl ?_
            refine al_nil ?_
            refine ad_one rfl rfl ?_
            refine al_opc (k := 203) rfl rfl rfl ((hvk _).trans rfl) (opC_buildSlice (ds := [.agg [.int .i64 op, .int .i64 0, .int .i64 fl, .sl 1 [], .int .u32 imm, .sl 1 []]]) rfl u35 s38 z38 rfl rfl (.cons (ev_tmp rfl) .nil) rfl rfl (.cons (.v _ rfl) (.cons (.v _ rfl) (.cons (.v _ rfl) (.cons (.nil 1) (.cons (.v _ rfl) (.cons (.nil 1) .nil)))))) rfl rfl rfl) ?_
            refine al_nil ?_
            refine ad_one rfl rfl ?_
            refine al_opc rfl rfl rfl ((hvk _).trans rfl) (opC_append rfl u35 s38 z38 rfl b38 (ev_tmp rfl) (ev_tmp rfl) (.row 202 6 _ _ rfl rfl) (.row 203 6 _ _ rfl rfl) rfl rfl (by simp) rfl) ?_
            refine al_nil ?_
            refine ad_free (i := 17) rfl rfl rfl rfl rfl rfl rfl (by intro c s h; first | exact h | (obtain ⟨_, _, h, _⟩ := h; exact h)) (freeD_op rfl (opM_index_row rfl u25 s35 (ev_tmp rfl) (ev_tmp rfl) (fun _ => Int.natCast_nonneg 0) (fun _ => by decide))) ?_
            refine ad_one rfl rfl ?_
            refine al_store_pe (x' := .sl 6 [.agg [.int .i64 op, .int .i64 0, .int .i64 fl, .sl 1 [], .int .u32 imm, .sl 1 []]]) (ds := [.sl 6 [.agg [.int .i64 op, .int .i64 0, .int .i64 fl, .sl 1 [], .int .u32 imm, .sl 1 []]]]) rfl rfl rfl s35 (ev_tmp rfl) (ev_tmp rfl) rfl rfl (.cons (.row 202 6 _ _ rfl rfl) .nil) rfl rfl rfl rfl rfl rfl rfl ?_
            refine al_nil ?_
            refine ad_done rfl ?_
            exact ⟨(), id, trivial, Fit.of (by repeat (first | exact trivial | refine ⟨rfl, ?_⟩)) (by repeat (first | exact trivial | refine ⟨rfl, ?_⟩)) rfl rfl⟩
          · skip
            refine al_opc (k := 203) rfl rfl rfl ((hvk _).trans rfl) (opC_buildSlice (ds := [.agg [.int .i64 op, .int .i64 0, .int .i64 fl, .sl 1 [], .int .u32 imm, .sl 1 []]]) rfl u35 s38 z38 rfl rfl (.cons (ev_tmp rfl) .nil) rfl rfl (.cons (.v _ rfl) (.cons (.v _ rfl) (.cons (.v _ rfl) (.cons (.nil 1) (.cons (.v _ rfl) (.cons (.nil 1) .nil)))))) rfl rfl rfl) ?_
            refine al_nil ?_
            refine ad_one rfl rfl ?_
            refine al_take (x' := .hole) 202 rfl rfl rfl rfl ((hvk _).trans rfl) rfl u35 rfl (ev_tmp rfl) rfl rfl rfl rfl ?_
            refine al_nil ?_
            refine ad_one rfl rfl ?_
            refine al_opc rfl rfl rfl ((hvk _).trans rfl) (opC_append rfl u35 s38 z38 rfl b38 (ev_tmp rfl) (ev_tmp rfl) (.row 202 6 _ _ rfl rfl) (.row 203 6 _ _ rfl rfl) rfl rfl (by simp) rfl) ?_
            refine al_nil ?_
            refine ad_free (i := 17) rfl rfl rfl rfl rfl rfl rfl (by intro c s h; first | exact h | (obtain ⟨_, _, h, _⟩ := h; exact h)) (freeD_op rfl (opM_index_row rfl u25 s35 (ev_tmp rfl) (ev_tmp rfl) (fun _ => Int.natCast_nonneg 0) (fun _ => by decide))) ?_
            refine ad_one rfl rfl ?_
            refine al_store_pe (x' := .sl 6 [.agg [.int .i64 op, .int .i64 0, .int .i64 fl, .sl 1 [], .int .u32 imm, .sl 1 []]]) (ds := [.sl 6 [.agg [.int .i64 op, .int .i64 0, .int .i64 fl, .sl 1 [], .int .u32 imm, .sl 1 []]]]) rfl rfl rfl s35 (ev_tmp rfl) (ev_tmp rfl) rfl rfl (.cons (.row 202 6 _ _ rfl rfl) .nil) rfl rfl rfl rfl rfl rfl rfl ?_
            refine al_nil ?_
            refine ad_done rfl ?_
            exact ⟨(), id, trivial, Fit.of (by repeat (first | exact trivial | refine ⟨rfl, ?_⟩)) (by repeat (first | exact trivial | refine ⟨rfl, ?_⟩)) rfl rfl⟩
        · skip
          refine al_take (x' := .hole) 202 rfl rfl rfl rfl ((hvk _).trans rfl) rfl u35 rfl (ev_tmp rfl) rfl rfl rfl rfl ?_
          refine al_nil ?_
          refine ad_all (l := [4, 15]) rfl (by simp) (.cons rfl ?_ (.cons rfl ?_ .nil))
          · skip
            refine al_op rfl rfl rfl (opP_load_pt rfl u25 rfl (ev_tmp rfl) rfl rfl) ?_
            refine al_nil ?_
            refine ad_one rfl rfl ?_
            refine al_opc (k := 203) rfl rfl rfl ((hvk _).trans rfl) (opC_buildSlice (ds := [.agg [.int .i64 op, .int .i64 0, .int .i64 fl, .sl 1 [], .int .u32 imm, .sl 1 []]]) rfl u35 s38 z38 rfl rfl (.cons (ev_tmp rfl) .nil) rfl rfl (.cons (.v _ rfl) (.cons (.v _ rfl) (.cons (.v _ rfl) (.cons (.nil 1) (.cons (.v _ rfl) (.cons (.nil 1) .nil)))))) rfl rfl rfl) ?_
            refine al_nil ?_
            refine ad_one rfl rfl ?_
            refine al_opc rfl rfl rfl ((hvk _).trans rfl) (opC_append rfl u35 s38 z38 rfl b38 (ev_tmp rfl) (ev_tmp rfl) (.row 202 6 _ _ rfl rfl) (.row 203 6 _ _ rfl rfl) rfl rfl (by simp) rfl) ?_
            refine al_nil ?_
            refine ad_free (i := 17) rfl rfl rfl rfl rfl rfl rfl (by intro c s h; first | exact h | (obtain ⟨_, _, h, _⟩ := h; exact h)) (freeD_op rfl (opM_index_row rfl u25 s35 (ev_tmp rfl) (ev_tmp rfl) (fun _ => Int.natCast_nonneg 0) (fun _ => by decide))) ?_
            refine ad_one rfl rfl ?_
            refine al_store_pe (x' := .sl 6 [.agg [.int .i64 op, .int .i64 0, .int .i64 fl, .sl 1 [], .int .u32 imm, .sl 1 []]]) (ds := [.sl 6 [.agg [.int .i64 op, .int .i64 0, .int .i64 fl, .sl 1 [], .int .u32 imm, .sl 1 []]]]) rfl rfl rfl s35 (ev_tmp rfl) (ev_tmp rfl) rfl rfl (.cons (.row 202 6 _ _ rfl rfl) .nil) rfl rfl rfl rfl rfl rfl rfl ?_
            refine al_nil ?_
            refine ad_done rfl ?_
            exact ⟨(), id, trivial, Fit.of (by repeat (first | exact trivial | refine ⟨rfl, ?_⟩)) (by repeat (first | exact trivial | refine ⟨rfl, ?_⟩)) rfl rfl⟩
          · skip
            refine al_opc (k := 203) rfl rfl rfl ((hvk _).trans rfl) (opC_buildSlice (ds := [.agg [.int .i64 op, .int .i64 0, .int .i64 fl, .sl 1 [], .int .u32 imm, .sl 1 []]]) rfl u35 s38 z38 rfl rfl (.cons (ev_tmp rfl) .nil) rfl rfl (.cons (.v _ rfl) (.cons (.v _ rfl) (.cons (.v _ rfl) (.cons (.nil 1) (.cons (.v _ rfl) (.cons (.nil 1) .nil)))))) rfl rfl rfl) ?_
            refine al_nil ?_
            refine ad_all (l := [4, 16]) rfl (by simp) (.cons rfl ?_ (.cons rfl ?_ .nil))
            · skip
              refine al_op rfl rfl rfl (opP_load_pt rfl u25 rfl (ev_tmp rfl) rfl rfl) ?_
              refine al_nil ?_
              refine ad_one rfl rfl ?_
              refine al_opc rfl rfl rfl ((hvk _).trans rfl) (opC_append rfl u35 s38 z38 rfl b38 (ev_tmp rfl) (ev_tmp rfl) (.row 202 6 _ _ rfl rfl) (.row 203 6 _ _ rfl rfl) rfl rfl (by simp) rfl) ?_
              refine al_nil ?_
              refine ad_free (i := 17) rfl rfl rfl rfl rfl rfl rfl (by intro c s h; first | exact h | (obtain ⟨_, _, h, _⟩ := h; exact h)) (freeD_op rfl (opM_index_row rfl u25 s35 (ev_tmp rfl) (ev_tmp rfl) (fun _ => Int.natCast_nonneg 0) (fun _ => by decide))) ?_
              refine ad_one rfl rfl ?_
              refine al_store_pe (x' := .sl 6 [.agg [.int .i64 op, .int .i64 0, .int .i64 fl, .sl 1 [], .int .u32 imm, .sl 1 []]]) (ds := [.sl 6 [.agg [.int .i64 op, .int .i64 0, .int .i64 fl, .sl 1 [], .int .u32 imm, .sl 1 []]]]) rfl rfl rfl s35 (ev_tmp rfl) (ev_tmp rfl) rfl rfl (.cons (.row 202 6 _ _ rfl rfl) .nil) rfl rfl rfl rfl rfl rfl rfl ?_
              refine al_nil ?_
              refine ad_done rfl ?_
              exact ⟨(), id, trivial, Fit.of (by repeat (first | exact trivial | refine ⟨rfl, ?_⟩)) (by repeat (first | exact trivial | refine ⟨rfl, ?_⟩)) rfl rfl⟩
            · skip
              refine al_opc rfl rfl rfl ((hvk _).trans rfl) (opC_append rfl u35 s38 z38 rfl b38 (ev_tmp rfl) (ev_tmp rfl) (.row 202 6 _ _ rfl rfl) (.row 203 6 _ _ rfl rfl) rfl rfl (by simp) rfl) ?_
              refine al_nil ?_
              refine ad_one rfl rfl ?_
              refine al_op rfl rfl rfl (opP_load_pt rfl u25 rfl (ev_tmp rfl) rfl rfl) ?_
              refine al_nil ?_
              refine ad_free (i := 17) rfl rfl rfl rfl rfl rfl rfl (by intro c s h; first | exact h | (obtain ⟨_, _, h, _⟩ := h; exact h)) (freeD_op rfl (opM_index_row rfl u25 s35 (ev_tmp rfl) (ev_tmp rfl) (fun _ => Int.natCast_nonneg 0) (fun _ => by decide))) ?_
              refine ad_one rfl rfl ?_
              refine al_store_pe (x' := .sl 6 [.agg [.int .i64 op, .int .i64 0, .int .i64 fl, .sl 1 [], .int .u32 imm, .sl 1 []]]) (ds := [.sl 6 [.agg [.int .i64 op, .int .i64 0, .int .i64 fl, .sl 1 [], .int .u32 imm, .sl 1 []]]]) rfl rfl rfl s35 (ev_tmp rfl) (ev_tmp rfl) rfl rfl (.cons (.row 202 6 _ _ rfl rfl) .nil) rfl rfl rfl rfl rfl rfl rfl ?_
              refine al_nil ?_
              refine ad_done rfl ?_
              exact ⟨(), id, trivial, Fit.of (by repeat (first | exact trivial | refine ⟨rfl, ?_⟩)) (by repeat (first | exact trivial | refine ⟨rfl, ?_⟩)) rfl rfl⟩
        · skip
          refine al_opc (k := 203) rfl rfl rfl ((hvk _).trans rfl) (opC_buildSlice (ds := [.agg [.int .i64 op, .int .i64 0, .int .i64 fl, .sl 1 [], .int .u32 imm, .sl 1 []]]) rfl u35 s38 z38 rfl rfl (.cons (ev_tmp rfl) .nil) rfl rfl (.cons (.v _ rfl) (.cons (.v _ rfl) (.cons (.v _ rfl) (.cons (.nil 1) (.cons (.v _ rfl) (.cons (.nil 1) .nil)))))) rfl rfl rfl) ?_
          refine al_nil ?_
          refine ad_all (l := [4, 13]) rfl (by simp) (.cons rfl ?_ (.cons rfl ?_ .nil))
          · skip
            refine al_op rfl rfl rfl (opP_load_pt rfl u25 rfl (ev_tmp rfl) rfl rfl) ?_
            refine al_nil ?_
            refine ad_one rfl rfl ?_
            refine al_take (x' := .hole) 202 rfl rfl rfl rfl ((hvk _).trans rfl) rfl u35 rfl (ev_tmp rfl) rfl rfl rfl rfl ?_
            refine al_nil ?_
            refine ad_one rfl rfl ?_
            refine al_opc rfl rfl rfl ((hvk _).trans rfl) (opC_append rfl u35 s38 z38 rfl b38 (ev_tmp rfl) (ev_tmp rfl) (.row 202 6 _ _ rfl rfl) (.row 203 6 _ _ rfl rfl) rfl rfl (by simp) rfl) ?_
            refine al_nil ?_
            refine ad_free (i := 17) rfl rfl rfl rfl rfl rfl rfl (by intro c s h; first | exact h | (obtain ⟨_, _, h, _⟩ := h; exact h)) (freeD_op rfl (opM_index_row rfl u25 s35 (ev_tmp rfl) (ev_tmp rfl) (fun _ => Int.natCast_nonneg 0) (fun _ => by decide))) ?_
            refine ad_one rfl rfl ?_
            refine al_store_pe (x' := .sl 6 [.agg [.int .i64 op, .int .i64 0, .int .i64 fl, .sl 1 [], .int .u32 imm, .sl 1 []]]) (ds := [.sl 6 [.agg [.int .i64 op, .int .i64 0, .int .i64 fl, .sl 1 [], .int .u32 imm, .sl 1 []]]]) rfl rfl rfl s35 (ev_tmp rfl) (ev_tmp rfl) rfl rfl (.cons (.row 202 6 _ _ rfl rfl) .nil) rfl rfl rfl rfl rfl rfl rfl ?_
            refine al_nil ?_
            refine ad_done rfl ?_
            exact ⟨(), id, trivial, Fit.of (by repeat (first | exact trivial | refine ⟨rfl, ?_⟩)) (by repeat (first | exact trivial | refine ⟨rfl, ?_⟩)) rfl rfl⟩
          · skip
            refine al_take (x' := .hole) 202 rfl rfl rfl rfl ((hvk _).trans rfl) rfl u35 rfl (ev_tmp rfl) rfl rfl rfl rfl ?_
            refine al_nil ?_
            refine ad_all (l := [4, 16]) rfl (by simp) (.cons rfl ?_ (.cons rfl ?_ .nil))
            · skip
              refine al_op rfl rfl rfl (opP_load_pt rfl u25 rfl (ev_tmp rfl) rfl rfl) ?_
              refine al_nil ?_
              refine ad_one rfl rfl ?_
              refine al_opc rfl rfl rfl ((hvk _).trans rfl) (opC_append rfl u35 s38 z38 rfl b38 (ev_tmp rfl) (ev_tmp rfl) (.row 202 6 _ _ rfl rfl) (.row 203 6 _ _ rfl rfl) rfl rfl (by simp) rfl) ?_
              refine al_nil ?_
              refine ad_free (i := 17) rfl rfl rfl rfl rfl rfl rfl (by intro c s h; first | exact h | (obtain ⟨_, _, h, _⟩ := h; exact h)) (freeD_op rfl (opM_index_row rfl u25 s35 (ev_tmp rfl) (ev_tmp rfl) (fun _ => Int.natCast_nonneg 0) (fun _ => by decide))) ?_
              refine ad_one rfl rfl ?_
              refine al_store_pe (x' := .sl 6 [.agg [.int .i64 op, .int .i64 0, .int .i64 fl, .sl 1 [], .int .u32 imm, .sl 1 []]]) (ds := [.sl 6 [.agg [.int .i64 op, .int .i64 0, .int .i64 fl, .sl 1 [], .int .u32 imm, .sl 1 []]]]) rfl rfl rfl s35 (ev_tmp rfl) (ev_tmp rfl) rfl rfl (.cons (.row 202 6 _ _ rfl rfl) .nil) rfl rfl rfl rfl rfl rfl rfl ?_
              refine al_nil ?_
              refine ad_done rfl ?_
              exact ⟨(), id, trivial, Fit.of (by repeat (first | exact trivial | refine ⟨rfl, ?_⟩)) (by repeat (first | exact trivial | refine ⟨rfl, ?_⟩)) rfl rfl⟩
            · skip
              refine al_opc rfl rfl rfl ((hvk _).trans rfl) (opC_append rfl u35 s38 z38 rfl b38 (ev_tmp rfl) (ev_tmp rfl) (.row 202 6 _ _ rfl rfl) (.row 203 6 _ _ rfl rfl) rfl rfl (by simp) rfl) ?_
              refine al_nil ?_
              refine ad_one rfl rfl ?_
              refine al_op rfl rfl rfl (opP_load_pt rfl u25 rfl (ev_tmp rfl) rfl rfl) ?_
              refine al_nil ?_
              refine ad_free (i := 17) rfl rfl rfl rfl rfl rfl rfl (by intro c s h; first | exact h | (obtain ⟨_, _, h, _⟩ := h; exact h)) (freeD_op rfl (opM_index_row rfl u25 s35 (ev_tmp rfl) (ev_tmp rfl) (fun _ => Int.natCast_nonneg 0) (fun _ => by decide))) ?_
              refine ad_one rfl rfl ?_
              refine al_store_pe (x' := .sl 6 [.agg [.int .i64 op, .int .i64 0, .int .i64 fl, .sl 1 [], .int .u32 imm, .sl 1 []]]) (ds := [.sl 6 [.agg [.int .i64 op, .int .i64 0, .int .i64 fl, .sl 1 [], .int .u32 imm, .sl 1 []]]]) rfl rfl rfl s35 (ev_tmp rfl) (ev_tmp rfl) rfl rfl (.cons (.row 202 6 _ _ rfl rfl) .nil) rfl rfl rfl rfl rfl rfl rfl ?_
              refine al_nil ?_
              refine ad_done rfl ?_
              exact ⟨(), id, trivial, Fit.of (by repeat (first | exact trivial | refine ⟨rfl, ?_⟩)) (by repeat (first | exact trivial | refine ⟨rfl, ?_⟩)) rfl rfl⟩
    · skip
      refine al_op rfl rfl rfl (opP_load_ptn (cs := [.v (.int .i64 op), .v (.int .i64 0), .v (.int .i64 fl), .nil, .v (.int .u32 imm), .nil]) rfl u38 rfl s38 (ev_tmp rfl) rfl rfl) ?_
      refine al_nil ?_
      refine ad_all (l := [4, 10, 15]) rfl (by simp) (.cons rfl ?_ (.cons rfl ?_ (.cons rfl ?_ .nil)))
      · skip
        refine al_op rfl rfl rfl (opP_load_pt rfl u25 rfl (ev_tmp rfl) rfl rfl) ?_
        refine al_nil ?_
        refine ad_all (l := [10, 15]) rfl (by simp) (.cons rfl ?_ (.cons rfl ?_ .nil))
        · skip
          refine al_op rfl rfl rfl (opP_load_pt rfl u25 rfl (ev_tmp rfl) rfl rfl) ?_
          refine al_nil ?_
          refine ad_free (i := 12) rfl rfl rfl rfl rfl rfl rfl (by intro c s h; first | exact h | (obtain ⟨_, _, h, _⟩ := h; exact h)) (freeD_op rfl (opM_index_row rfl u25 s35 (ev_tmp rfl) (ev_tmp rfl) (fun _ => Int.natCast_nonneg 0) (fun _ => by decide))) ?_
          refine ad_all (l := [13, 15]) rfl (by simp) (.cons rfl ?_ (.cons rfl ?_ .nil))
          · skip
            refine al_take (x' := .hole) 202 rfl rfl rfl rfl ((hvk _).trans rfl) rfl u35 rfl (ev_tmp rfl) rfl rfl rfl rfl ?_
            refine al_nil ?_
            refine ad_one rfl rfl ?_
            refine al_opc (k := 203) rfl rfl rfl ((hvk _).trans rfl) (opC_buildSlice (ds := [.agg [.int .i64 op, .int .i64 0, .int .i64 fl, .sl 1 [], .int .u32 imm, .sl 1 []]]) rfl u35 s38 z38 rfl rfl (.cons (ev_tmp rfl) .nil) rfl rfl (.cons (.v _ rfl) (.cons (.v _ rfl) (.cons (.v _ rfl) (.cons (.nil 1) (.cons (.v _ rfl) (.cons (.nil 1) .nil)))))) rfl rfl rfl) ?_
            refine al_nil ?_
            refine ad_one rfl rfl ?_
            refine al_opc rfl rfl rfl ((hvk _).trans rfl) (opC_append rfl u35 s38 z38 rfl b38 (ev_tmp rfl) (ev_tmp rfl) (.row 202 6 _ _ rfl rfl) (.row 203 6 _ _ rfl rfl) rfl rfl (by simp) rfl) ?_
            refine al_nil ?_
            refine ad_free (i := 17) rfl rfl rfl rfl rfl rfl rfl (by intro c s h; first | exact h | (obtain ⟨_, _, h, _⟩ := h; exact h)) (freeD_op rfl (opM_index_row rfl u25 s35 (ev_tmp rfl) (ev_tmp rfl) (fun _ => Int.natCast_nonneg 0) (fun _ => by decide))) ?_
            refine ad_one rfl rfl ?_
            refine al_store_pe (x' := .sl 6 [.agg [.int .i64 op, .int .i64 0, .int .i64 fl, .sl 1 [], .int .u32 imm, .sl 1 []]]) (ds := [.sl 6 [.agg [.int .i64 op, .int .i64 0, .int .i64 fl, .sl 1 [], .int .u32 imm, .sl 1 []]]]) rfl rfl rfl s35 (ev_tmp rfl) (ev_tmp rfl) rfl rfl (.cons (.row 202 6 _ _ rfl rfl) .nil) rfl rfl rfl rfl rfl rfl rfl ?_
            refine al_nil ?_
            refine ad_done rfl ?_
            exact ⟨(), id, trivial, Fit.of (by repeat (first | exact trivial | refine ⟨rfl, ?_⟩)) (by repeat (first | exact trivial | refine ⟨rfl, ?_⟩)) rfl rfl⟩
          · skip
            refine al_opc (k := 203) rfl rfl rfl ((hvk _).trans rfl) (opC_buildSlice (ds := [.agg [.int .i64 op, .int .i64 0, .int .i64 fl, .sl 1 [], .int .u32 imm, .sl 1 []]]) rfl u35 s38 z38 rfl rfl (.cons (ev_tmp rfl) .nil) rfl rfl (.cons (.v _ rfl) (.cons (.v _ rfl) (.cons (.v _ rfl) (.cons (.nil 1) (.cons (.v _ rfl) (.cons (.nil 1) .nil)))))) rfl rfl rfl) ?_
            refine al_nil ?_
            refine ad_one rfl rfl ?_
            refine al_take (x' := .hole) 202 rfl rfl rfl rfl ((hvk _).trans rfl) rfl u35 rfl (ev_tmp rfl) rfl rfl rfl rfl ?_
            refine al_nil ?_
            refine ad_one rfl rfl ?_
            refine al_opc rfl rfl rfl ((hvk _).trans rfl) (opC_append rfl u35 s38 z38 rfl b38 (ev_tmp rfl) (ev_tmp rfl) (.row 202 6 _ _ rfl rfl) (.row 203 6 _ _ rfl rfl) rfl rfl (by simp) rfl) ?_
            refine al_nil ?_
            refine ad_free (i := 17) rfl rfl rfl rfl rfl rfl rfl (by intro c s h; first | exact h | (obtain ⟨_, _, h, _⟩ := h; exact h)) (freeD_op rfl (opM_index_row rfl u25 s35 (ev_tmp rfl) (ev_tmp rfl) (fun _ => Int.natCast_nonneg 0) (fun _ => by decide))) ?_
            refine ad_one rfl rfl ?_
            refine al_store_pe (x' := .sl 6 [.agg [.int .i64 op, .int .i64 0, .int .i64 fl, .sl 1 [], .int .u32 imm, .sl 1 []]]) (ds := [.sl 6 [.agg [.int .i64 op, .int .i64 0, .int .i64 fl, .sl 1 [], .int .u32 imm, .sl 1 []]]]) rfl rfl rfl s35 (ev_tmp rfl) (ev_tmp rfl) rfl rfl (.cons (.row 202 6 _ _ rfl rfl) .nil) rfl rfl rfl rfl rfl rfl rfl ?_
            refine al_nil ?_
            refine ad_done rfl ?_
            exact ⟨(), id, trivial, Fit.of (by repeat (first | exact trivial | refine ⟨rfl, ?_⟩)) (by repeat (first | exact trivial | refine ⟨rfl, ?_⟩)) rfl rfl⟩
        · skip
          refine al_opc (k := 203) rfl rfl rfl ((hvk _).trans rfl) (opC_buildSlice (ds := [.agg [.int .i64 op, .int .i64 0, .int .i64 fl, .sl 1 [], .int .u32 imm, .sl 1 []]]) rfl u35 s38 z38 rfl rfl (.cons (ev_tmp rfl) .nil) rfl rfl (.cons (.v _ rfl) (.cons (.v _ rfl) (.cons (.v _ rfl) (.cons (.nil 1) (.cons (.v _ rfl) (.cons (.nil 1) .nil)))))) rfl rfl rfl) ?_
          refine al_nil ?_
          refine ad_one rfl rfl ?_
          refine al_op rfl rfl rfl (opP_load_pt rfl u25 rfl (ev_tmp rfl) rfl rfl) ?_
          refine al_nil ?_
          refine ad_free (i := 12) rfl rfl rfl rfl rfl rfl rfl (by intro c s h; first | exact h | (obtain ⟨_, _, h, _⟩ := h; exact h)) (freeD_op rfl (opM_index_row rfl u25 s35 (ev_tmp rfl) (ev_tmp rfl) (fun _ => Int.natCast_nonneg 0) (fun _ => by decide))) ?_
          refine ad_one rfl rfl ?_
          refine al_take (x' := .hole) 202 rfl rfl rfl rfl ((hvk _).trans rfl) rfl u35 rfl (ev_tmp rfl) rfl rfl rfl rfl ?_
          refine al_nil ?_
          refine ad_one rfl rfl ?_
          refine al_opc rfl rfl rfl ((hvk _).trans rfl) (opC_append rfl u35 s38 z38 rfl b38 (ev_tmp rfl) (ev_tmp rfl) (.row 202 6 _ _ rfl rfl) (.row 203 6 _ _ rfl rfl) rfl rfl (by simp) rfl) ?_
          refine al_nil ?_
          refine ad_free (i := 17) rfl rfl rfl rfl rfl rfl rfl (by intro c s h; first | exact h | (obtain ⟨_, _, h, _⟩ := h; exact h)) (freeD_op rfl (opM_index_row rfl u25 s35 (ev_tmp rfl) (ev_tmp rfl) (fun _ => Int.natCast_nonneg 0) (fun _ => by decide))) ?_
          refine ad_one rfl rfl ?_
          refine al_store_pe (x' := .sl 6 [.agg [.int .i64 op, .int .i64 0, .int .i64 fl, .sl 1 [], .int .u32 imm, .sl 1 []]]) (ds := [.sl 6 [.agg [.int .i64 op, .int .i64 0, .int .i64 fl, .sl 1 [], .int .u32 imm, .sl 1 []]]]) rfl rfl rfl s35 (ev_tmp rfl) (ev_tmp rfl) rfl rfl (.cons (.row 202 6 _ _ rfl rfl) .nil) rfl rfl rfl rfl rfl rfl rfl ?_
          refine al_nil ?_
          refine ad_done rfl ?_
          exact ⟨(), id, trivial, Fit.of (by repeat (first | exact trivial | refine ⟨rfl, ?_⟩)) (by repeat (first | exact trivial | refine ⟨rfl, ?_⟩)) rfl rfl⟩
      · skip
        refine al_op rfl rfl rfl (opP_load_pt rfl u25 rfl (ev_tmp rfl) rfl rfl) ?_
        refine al_nil ?_
        refine ad_free (i := 12) rfl rfl rfl rfl rfl rfl rfl (by intro c s h; first | exact h | (obtain ⟨_, _, h, _⟩ := h; exact h)) (freeD_op rfl (opM_index_row rfl u25 s35 (ev_tmp rfl) (ev_tmp rfl) (fun _ => Int.natCast_nonneg 0) (fun _ => by decide))) ?_
        refine ad_all (l := [4, 13, 15]) rfl (by simp) (.cons rfl ?_ (.cons rfl ?_ (.cons rfl ?_ .nil)))
        · skip
          refine al_op rfl rfl rfl (opP_load_pt rfl u25 rfl (ev_tmp rfl) rfl rfl) ?_
          refine al_nil ?_
          refine ad_all (l := [13, 15]) rfl (by simp) (.cons rfl ?_ (.cons rfl ?_ .nil))
          · skip
            refine al_take (x' := .hole) 202 rfl rfl rfl rfl ((hvk _).trans rfl) rfl u35 rfl (ev_tmp rfl) rfl rfl rfl rfl ?_
            refine al_nil ?_
            refine ad_one rfl rfl ?_
            refine al_opc (k := 203) rfl rfl rfl ((hvk _).trans rfl) (opC_buildSlice (ds := [.agg [.int .i64 op, .int .i64 0, .int .i64 fl, .sl 1 [], .int .u32 imm, .sl 1 []]]) rfl u35 s38 z38 rfl rfl (.cons (ev_tmp rfl) .nil) rfl rfl (.cons (.v _ rfl) (.cons (.v _ rfl) (.cons (.v _ rfl) (.cons (.nil 1) (.cons (.v _ rfl) (.cons (.nil 1) .nil)))))) rfl rfl rfl) ?_
            refine al_nil ?_
            refine ad_one rfl rfl ?_
            refine al_opc rfl rfl rfl ((hvk _).trans rfl) (opC_append rfl u35 s38 z38 rfl b38 (ev_tmp rfl) (ev_tmp rfl) (.row 202 6 _ _ rfl rfl) (.row 203 6 _ _ rfl rfl) rfl rfl (by simp) rfl) ?_
            refine al_nil ?_
            refine ad_free (i := 17) rfl rfl rfl rfl rfl rfl rfl (by intro c s h; first | exact h | (obtain ⟨_, _, h, _⟩ := h; exact h)) (freeD_op rfl (opM_index_row rfl u25 s35 (ev_tmp rfl) (ev_tmp rfl) (fun _ => Int.natCast_nonneg 0) (fun _ => by decide))) ?_
            refine ad_one rfl rfl ?_
            refine al_store_pe (x' := .sl 6 [.agg [.int .i64 op, .int .i64 0, .int .i64 fl, .sl 1 [], .int .u32 imm, .sl 1 []]]) (ds := [.sl 6 [.agg [.int .i64 op, .int .i64 0, .int .i64 fl, .sl 1 [], .int .u32 imm, .sl 1 []]]]) rfl rfl rfl s35 (ev_tmp rfl) (ev_tmp rfl) rfl rfl (.cons (.row 202 6 _ _ rfl rfl) .nil) rfl rfl rfl rfl rfl rfl rfl ?_
            refine al_nil ?_
            refine ad_done rfl ?_
            exact ⟨(), id, trivial, Fit.of (by repeat (first | exact trivial | refine ⟨rfl, ?_⟩)) (by repeat (first | exact trivial | refine ⟨rfl, ?_⟩)) rfl rfl⟩
          · skip
            refine al_opc (k := 203) rfl rfl rfl ((hvk _).trans rfl) (opC_buildSlice (ds := [.agg [.int .i64 op, .int .i64 0, .int .i64 fl, .sl 1 [], .int .u32 imm, .sl 1 []]]) rfl u35 s38 z38 rfl rfl (.cons (ev_tmp rfl) .nil) rfl rfl (.cons (.v _ rfl) (.cons (.v _ rfl) (.cons (.v _ rfl) (.cons (.nil 1) (.cons (.v _ rfl) (.cons (.nil 1) .nil)))))) rfl rfl rfl) ?_
            refine al_nil ?_
            refine ad_one rfl rfl ?_
            refine al_take (x' := .hole) 202 rfl rfl rfl rfl ((hvk _).trans rfl) rfl u35 rfl (ev_tmp rfl) rfl rfl rfl rfl ?_
            refine al_nil ?_
            refine ad_one rfl rfl ?_
            refine al_opc rfl rfl rfl ((hvk _).trans rfl) (opC_append rfl u35 s38 z38 rfl b38 (ev_tmp rfl) (ev_tmp rfl) (.row 202 6 _ _ rfl rfl) (.row 203 6 _ _ rfl rfl) rfl rfl (by simp) rfl) ?_
            refine al_nil ?_
            refine ad_free (i := 17) rfl rfl rfl rfl rfl rfl rfl (by intro c s h; first | exact h | (obtain ⟨_, _, h, _⟩ := h; exact h)) (freeD_op rfl (opM_index_row rfl u25 s35 (ev_tmp rfl) (ev_tmp rfl) (fun _ => Int.natCast_nonneg 0) (fun _ => by decide))) ?_
            refine ad_one rfl rfl ?_
            refine al_store_pe (x' := .sl 6 [.agg [.int .i64 op, .int .i64 0, .int .i64 fl, .sl 1 [], .int .u32 imm, .sl 1 []]]) (ds := [.sl 6 [.agg [.int .i64 op, .int .i64 0, .int .i64 fl, .sl 1 [], .int .u32 imm, .sl 1 []]]]) rfl rfl rfl s35 (ev_tmp rfl) (ev_tmp rfl) rfl rfl (.cons (.row 202 6 _ _ rfl rfl) .nil) rfl rfl rfl rfl rfl rfl rfl ?_
            refine al_nil ?_
            refine ad_done rfl ?_
            exact ⟨(), id, trivial, Fit.of (by repeat (first | exact trivial | refine ⟨rfl, ?_⟩)) (by repeat (first | exact trivial | refine ⟨rfl, ?_⟩)) rfl rfl⟩
        · skip
          refine al_take (x' := .hole) 202 rfl rfl rfl rfl ((hvk _).trans rfl) rfl u35 rfl (ev_tmp rfl) rfl rfl rfl rfl ?_
          refine al_nil ?_
          refine ad_all (l := [4, 15]) rfl (by simp) (.cons rfl ?_ (.cons rfl ?_ .nil))
          · skip
            refine al_op rfl rfl rfl (opP_load_pt rfl u25 rfl (ev_tmp rfl) rfl rfl) ?_
            refine al_nil ?_
            refine ad_one rfl rfl ?_
            refine al_opc (k := 203) rfl rfl rfl ((hvk _).trans rfl) (opC_buildSlice (ds := [.agg [.int .i64 op, .int .i64 0, .int .i64 fl, .sl 1 [], .int .u32 imm, .sl 1 []]]) rfl u35 s38 z38 rfl rfl (.cons (ev_tmp rfl) .nil) rfl rfl (.cons (.v _ rfl) (.cons (.v _ rfl) (.cons (.v _ rfl) (.cons (.nil 1) (.cons (.v _ rfl) (.cons (.nil 1) .nil)))))) rfl rfl rfl) ?_
            refine al_nil ?_
            refine ad_one rfl rfl ?_
            refine al_opc rfl rfl rfl ((hvk _).trans rfl) (opC_append rfl u35 s38 z38 rfl b38 (ev_tmp rfl) (ev_tmp rfl) (.row 202 6 _ _ rfl rfl) (.row 203 6 _ _ rfl rfl) rfl rfl (by simp) rfl) ?_
            refine al_nil ?_
            refine ad_free (i := 17) rfl rfl rfl rfl rfl rfl rfl (by intro c s h; first | exact h | (obtain ⟨_, _, h, _⟩ := h; exact h)) (freeD_op rfl (opM_index_row rfl u25 s35 (ev_tmp rfl) (ev_tmp rfl) (fun _ => Int.natCast_nonneg 0) (fun _ => by decide))) ?_
            refine ad_one rfl rfl ?_
            refine al_store_pe (x' := .sl 6 [.agg [.int .i64 op, .int .i64 0, .int .i64 fl, .sl 1 [], .int .u32 imm, .sl 1 []]]) (ds := [.sl 6 [.agg [.int .i64 op, .int .i64 0, .int .i64 fl, .sl 1 [], .int .u32 imm, .sl 1 []]]]) rfl rfl rfl s35 (ev_tmp rfl) (ev_tmp rfl) rfl rfl (.cons (.row 202 6 _ _ rfl rfl) .nil) rfl rfl rfl rfl rfl rfl rfl ?_
            refine al_nil ?_
            refine ad_done rfl ?_
            exact ⟨(), id, trivial, Fit.of (by repeat (first | exact trivial | refine ⟨rfl, ?_⟩)) (by repeat (first | exact trivial | refine ⟨rfl, ?_⟩)) rfl rfl⟩
          · skip
            refine al_opc (k := 203) rfl rfl rfl ((hvk _).trans rfl) (opC_buildSlice (ds := [.agg [.int .i64 op, .int .i64 0, .int .i64 fl, .sl 1 [], .int .u32 imm, .sl 1 []]]) rfl u35 s38 z38 rfl rfl (.cons (ev_tmp rfl) .nil) rfl rfl (.cons (.v _ rfl) (.cons (.v _ rfl) (.cons (.v _ rfl) (.cons (.nil 1) (.cons (.v _ rfl) (.cons (.nil 1) .nil)))))) rfl rfl rfl) ?_
            refine al_nil ?_
            refine ad_all (l := [4, 16]) rfl (by simp) (.cons rfl ?_ (.cons rfl ?_ .nil))
            · skip
              refine al_op rfl rfl rfl (opP_load_pt rfl u25 rfl (ev_tmp rfl) rfl rfl) ?_
              refine al_nil ?_
              refine ad_one rfl rfl ?_
              refine al_opc rfl rfl rfl ((hvk _).trans rfl) (opC_append rfl u35 s38 z38 rfl b38 (ev_tmp rfl) (ev_tmp rfl) (.row 202 6 _ _ rfl rfl) (.row 203 6 _ _ rfl rfl) rfl rfl (by simp) rfl) ?_
              refine al_nil ?_
              refine ad_free (i := 17) rfl rfl rfl rfl rfl rfl rfl (by intro c s h; first | exact h | (obtain ⟨_, _, h, _⟩ := h; exact h)) (freeD_op rfl (opM_index_row rfl u25 s35 (ev_tmp rfl) (ev_tmp rfl) (fun _ => Int.natCast_nonneg 0) (fun _ => by decide))) ?_
              refine ad_one rfl rfl ?_
              refine al_store_pe (x' := .sl 6 [.agg [.int .i64 op, .int .i64 0, .int .i64 fl, .sl 1 [], .int .u32 imm, .sl 1 []]]) (ds := [.sl 6 [.agg [.int .i64 op, .int .i64 0, .int .i64 fl, .sl 1 [], .int .u32 imm, .sl 1 []]]]) rfl rfl rfl s35 (ev_tmp rfl) (ev_tmp rfl) rfl rfl (.cons (.row 202 6 _ _ rfl rfl) .nil) rfl rfl rfl rfl rfl rfl rfl ?_
              refine al_nil ?_
              refine ad_done rfl ?_
              exact ⟨(), id, trivial, Fit.of (by repeat (first | exact trivial | refine ⟨rfl, ?_⟩)) (by repeat (first | exact trivial | refine ⟨rfl, ?_⟩)) rfl rfl⟩
            · skip
              refine al_opc rfl rfl rfl ((hvk _).trans rfl) (opC_append rfl u35 s38 z38 rfl b38 (ev_tmp rfl) (ev_tmp rfl) (.row 202 6 _ _ rfl rfl) (.row 203 6 _ _ rfl rfl) rfl rfl (by simp) rfl) ?_
              refine al_nil ?_
              refine ad_one rfl rfl ?_
              refine al_op rfl rfl rfl (opP_load_pt rfl u25 rfl (ev_tmp rfl) rfl rfl) ?_
              refine al_nil ?_
              refine ad_free (i := 17) rfl rfl rfl rfl rfl rfl rfl (by intro c s h; first | exact h | (obtain ⟨_, _, h, _⟩ := h; exact h)) (freeD_op rfl (opM_index_row rfl u25 s35 (ev_tmp rfl) (ev_tmp rfl) (fun _ => Int.natCast_nonneg 0) (fun _ => by decide))) ?_
              refine ad_one rfl rfl ?_
              refine al_store_pe (x' := .sl 6 [.agg [.int .i64 op, .int .i64 0, .int .i64 fl, .sl 1 [], .int .u32 imm, .sl 1 []]]) (ds := [.sl 6 [.agg [.int .i64 op, .int .i64 0, .int .i64 fl, .sl 1 [], .int .u32 imm, .sl 1 []]]]) rfl rfl rfl s35 (ev_tmp rfl) (ev_tmp rfl) rfl rfl (.cons (.row 202 6 _ _ rfl rfl) .nil) rfl rfl rfl rfl rfl rfl rfl ?_
              refine al_nil ?_
              refine ad_done rfl ?_
              exact ⟨(), id, trivial, Fit.of (by repeat (first | exact trivial | refine ⟨rfl, ?_⟩)) (by repeat (first | exact trivial | refine ⟨rfl, ?_⟩)) rfl rfl⟩
        · skip
          refine al_opc (k := 203) rfl rfl rfl ((hvk _).trans rfl) (opC_buildSlice (ds := [.agg [.int .i64 op, .int .i64 0, .int .i64 fl, .sl 1 [], .int .u32 imm, .sl 1 []]]) rfl u35 s38 z38 rfl rfl (.cons (ev_tmp rfl) .nil) rfl rfl (.cons (.v _ rfl) (.cons (.v _ rfl) (.cons (.v _ rfl) (.cons (.nil 1) (.cons (.v _ rfl) (.cons (.nil 1) .nil)))))) rfl rfl rfl) ?_
          refine al_nil ?_
          refine ad_all (l := [4, 13]) rfl (by simp) (.cons rfl ?_ (.cons rfl ?_ .nil))
          · skip
            refine al_op rfl rfl rfl (opP_load_pt rfl u25 rfl (ev_tmp rfl) rfl rfl) ?_
            refine al_nil ?_
            refine ad_one rfl rfl ?_
            refine al_take (x' := .hole) 202 rfl rfl rfl rfl ((hvk _).trans rfl) rfl u35 rfl (ev_tmp rfl) rfl rfl rfl rfl ?_
            refine al_nil ?_
            refine ad_one rfl rfl ?_
            refine al_opc rfl rfl rfl ((hvk _).trans rfl) (opC_append rfl u35 s38 z38 rfl b38 (ev_tmp rfl) (ev_tmp rfl) (.row 202 6 _ _ rfl rfl) (.row 203 6 _ _ rfl rfl) rfl rfl (by simp) rfl) ?_
            refine al_nil ?_
            refine ad_free (i := 17) rfl rfl rfl rfl rfl rfl rfl (by intro c s h; first | exact h | (obtain ⟨_, _, h, _⟩ := h; exact h)) (freeD_op rfl (opM_index_row rfl u25 s35 (ev_tmp rfl) (ev_tmp rfl) (fun _ => Int.natCast_nonneg 0) (fun _ => by decide))) ?_
            refine ad_one rfl rfl ?_
            refine al_store_pe (x' := .sl 6 [.agg [.int .i64 op, .int .i64 0, .int .i64 fl, .sl 1 [], .int .u32 imm, .sl 1 []]]) (ds := [.sl 6 [.agg [.int .i64 op, .int .i64 0, .int .i64 fl, .sl 1 [], .int .u32 imm, .sl 1 []]]]) rfl rfl rfl s35 (ev_tmp rfl) (ev_tmp rfl) rfl rfl (.cons (.row 202 6 _ _ rfl rfl) .nil) rfl rfl rfl rfl rfl rfl rfl ?_
            refine al_nil ?_
            refine ad_done rfl ?_
            exact ⟨(), id, trivial, Fit.of (by repeat (first | exact trivial | refine ⟨rfl, ?_⟩)) (by repeat (first | exact trivial | refine ⟨rfl, ?_⟩)) rfl rfl⟩
          · skip
            refine al_take (x' := .hole) 202 rfl rfl rfl rfl ((hvk _).trans rfl) rfl u35 rfl (ev_tmp rfl) rfl rfl rfl rfl ?_
            refine al_nil ?_
            refine ad_all (l := [4, 16]) rfl (by simp) (.cons rfl ?_ (.cons rfl ?_ .nil))
            · skip
              refine al_op rfl rfl rfl (opP_load_pt rfl u25 rfl (ev_tmp rfl) rfl rfl) ?_
              refine al_nil ?_
              refine ad_one rfl rfl ?_
              refine al_opc rfl rfl rfl ((hvk _).trans rfl) (opC_append rfl u35 s38 z38 rfl b38 (ev_tmp rfl) (ev_tmp rfl) (.row 202 6 _ _ rfl rfl) (.row 203 6 _ _ rfl rfl) rfl rfl (by simp) rfl) ?_
              refine al_nil ?_
              refine ad_free (i := 17) rfl rfl rfl rfl rfl rfl rfl (by intro c s h; first | exact h | (obtain ⟨_, _, h, _⟩ := h; exact h)) (freeD_op rfl (opM_index_row rfl u25 s35 (ev_tmp rfl) (ev_tmp rfl) (fun _ => Int.natCast_nonneg 0) (fun _ => by decide))) ?_
              refine ad_one rfl rfl ?_
              refine al_store_pe (x' := .sl 6 [.agg [.int .i64 op, .int .i64 0, .int .i64 fl, .sl 1 [], .int .u32 imm, .sl 1 []]]) (ds := [.sl 6 [.agg [.int .i64 op, .int .i64 0, .int .i64 fl, .sl 1 [], .int .u32 imm, .sl 1 []]]]) rfl rfl rfl s35 (ev_tmp rfl) (ev_tmp rfl) rfl rfl (.cons (.row 202 6 _ _ rfl rfl) .nil) rfl rfl rfl rfl rfl rfl rfl ?_
              refine al_nil ?_
              refine ad_done rfl ?_
              exact ⟨(), id, trivial, Fit.of (by repeat (first | exact trivial | refine ⟨rfl, ?_⟩)) (by repeat (first | exact trivial | refine ⟨rfl, ?_⟩)) rfl rfl⟩
            · skip
              refine al_opc rfl rfl rfl ((hvk _).trans rfl) (opC_append rfl u35 s38 z38 rfl b38 (ev_tmp rfl) (ev_tmp rfl) (.row 202 6 _ _ rfl rfl) (.row 203 6 _ _ rfl rfl) rfl rfl (by simp) rfl) ?_
              refine al_nil ?_
              refine ad_one rfl rfl ?_
              refine al_op rfl rfl rfl (opP_load_pt rfl u25 rfl (ev_tmp rfl) rfl rfl) ?_
              refine al_nil ?_
              refine ad_free (i := 17) rfl rfl rfl rfl rfl rfl rfl (by intro c s h; first | exact h | (obtain ⟨_, _, h, _⟩ := h; exact h)) (freeD_op rfl (opM_index_row rfl u25 s35 (ev_tmp rfl) (ev_tmp rfl) (fun _ => Int.natCast_nonneg 0) (fun _ => by decide))) ?_
              refine ad_one rfl rfl ?_
              refine al_store_pe (x' := .sl 6 [.agg [.int .i64 op, .int .i64 0, .int .i64 fl, .sl 1 [], .int .u32 imm, .sl 1 []]]) (ds := [.sl 6 [.agg [.int .i64 op, .int .i64 0, .int .i64 fl, .sl 1 [], .int .u32 imm, .sl 1 []]]]) rfl rfl rfl s35 (ev_tmp rfl) (ev_tmp rfl) rfl rfl (.cons (.row 202 6 _ _ rfl rfl) .nil) rfl rfl rfl rfl rfl rfl rfl ?_
              refine al_nil ?_
              refine ad_done rfl ?_
              exact ⟨(), id, trivial, Fit.of (by repeat (first | exact trivial | refine ⟨rfl, ?_⟩)) (by repeat (first | exact trivial | refine ⟨rfl, ?_⟩)) rfl rfl⟩
      · skip
        refine al_opc (k := 203) rfl rfl rfl ((hvk _).trans rfl) (opC_buildSlice (ds := [.agg [.int .i64 op, .int .i64 0, .int .i64 fl, .sl 1 [], .int .u32 imm, .sl 1 []]]) rfl u35 s38 z38 rfl rfl (.cons (ev_tmp rfl) .nil) rfl rfl (.cons (.v _ rfl) (.cons (.v _ rfl) (.cons (.v _ rfl) (.cons (.nil 1) (.cons (.v _ rfl) (.cons (.nil 1) .nil)))))) rfl rfl rfl) ?_
        refine al_nil ?_
        refine ad_all (l := [4, 10]) rfl (by simp) (.cons rfl ?_ (.cons rfl ?_ .nil))
        · skip
          refine al_op rfl rfl rfl (opP_load_pt rfl u25 rfl (ev_tmp rfl) rfl rfl) ?_
          refine al_nil ?_
          refine ad_one rfl rfl ?_
          refine al_op rfl rfl rfl (opP_load_pt rfl u25 rfl (ev_tmp rfl) rfl rfl) ?_
          refine al_nil ?_
          refine ad_free (i := 12) rfl rfl rfl rfl rfl rfl rfl (by intro c s h; first | exact h | (obtain ⟨_, _, h, _⟩ := h; exact h)) (freeD_op rfl (opM_index_row rfl u25 s35 (ev_tmp rfl) (ev_tmp rfl) (fun _ => Int.natCast_nonneg 0) (fun _ => by decide))) ?_
          refine ad_one rfl rfl ?_
          refine al_take (x' := .hole) 202 rfl rfl rfl rfl ((hvk _).trans rfl) rfl u35 rfl (ev_tmp rfl) rfl rfl rfl rfl ?_
          refine al_nil ?_
          refine ad_one rfl rfl ?_
          refine al_opc rfl rfl rfl ((hvk _).trans rfl) (opC_append rfl u35 s38 z38 rfl b38 (ev_tmp rfl) (ev_tmp rfl) (.row 202 6 _ _ rfl rfl) (.row 203 6 _ _ rfl rfl) rfl rfl (by simp) rfl) ?_
          refine al_nil ?_
          refine ad_free (i := 17) rfl rfl rfl rfl rfl rfl rfl (by intro c s h; first | exact h | (obtain ⟨_, _, h, _⟩ := h; exact h)) (freeD_op rfl (opM_index_row rfl u25 s35 (ev_tmp rfl) (ev_tmp rfl) (fun _ => Int.natCast_nonneg 0) (fun _ => by decide))) ?_
          refine ad_one rfl rfl ?_
          refine al_store_pe (x' := .sl 6 [.agg [.int .i64 op, .int .i64 0, .int .i64 fl, .sl 1 [], .int .u32 imm, .sl 1 []]]) (ds := [.sl 6 [.agg [.int .i64 op, .int .i64 0, .int .i64 fl, .sl 1 [], .int .u32 imm, .sl 1 []]]]) rfl rfl rfl s35 (ev_tmp rfl) (ev_tmp rfl) rfl rfl (.cons (.row 202 6 _ _ rfl rfl) .nil) rfl rfl rfl rfl rfl rfl rfl ?_
          refine al_nil ?_
          refine ad_done rfl ?_
          exact ⟨(), id, trivial, Fit.of (by repeat (first | exact trivial | refine ⟨rfl, ?_⟩)) (by repeat (first | exact trivial | refine ⟨rfl, ?_⟩)) rfl rfl⟩
        · skip
          refine al_op rfl rfl rfl (opP_load_pt rfl u25 rfl (ev_tmp rfl) rfl rfl) ?_
          refine al_nil ?_
          refine ad_free (i := 12) rfl rfl rfl rfl rfl rfl rfl (by intro c s h; first | exact h | (obtain ⟨_, _, h, _⟩ := h; exact h)) (freeD_op rfl (opM_index_row rfl u25 s35 (ev_tmp rfl) (ev_tmp rfl) (fun _ => Int.natCast_nonneg 0) (fun _ => by decide))) ?_
          refine ad_all (l := [4, 13]) rfl (by simp) (.cons rfl ?_ (.cons rfl ?_ .nil))
          · skip
            refine al_op rfl rfl rfl (opP_load_pt rfl u25 rfl (ev_tmp rfl) rfl rfl) ?_
            refine al_nil ?_
            refine ad_one rfl rfl ?_
            refine al_take (x' := .hole) 202 rfl rfl rfl rfl ((hvk _).trans rfl) rfl u35 rfl (ev_tmp rfl) rfl rfl rfl rfl ?_
            refine al_nil ?_
            refine ad_one rfl rfl ?_
            refine al_opc rfl rfl rfl ((hvk _).trans rfl) (opC_append rfl u35 s38 z38 rfl b38 (ev_tmp rfl) (ev_tmp rfl) (.row 202 6 _ _ rfl rfl) (.row 203 6 _ _ rfl rfl) rfl rfl (by simp) rfl) ?_
            refine al_nil ?_
            refine ad_free (i := 17) rfl rfl rfl rfl rfl rfl rfl (by intro c s h; first | exact h | (obtain ⟨_, _, h, _⟩ := h; exact h)) (freeD_op rfl (opM_index_row rfl u25 s35 (ev_tmp rfl) (ev_tmp rfl) (fun _ => Int.natCast_nonneg 0) (fun _ => by decide))) ?_
            refine ad_one rfl rfl ?_
            refine al_store_pe (x' := .sl 6 [.agg [.int .i64 op, .int .i64 0, .int .i64 fl, .sl 1 [], .int .u32 imm, .sl 1 []]]) (ds := [.sl 6 [.agg [.int .i64 op, .int .i64 0, .int .i64 fl, .sl 1 [], .int .u32 imm, .sl 1 []]]]) rfl rfl rfl s35 (ev_tmp rfl) (ev_tmp rfl) rfl rfl (.cons (.row 202 6 _ _ rfl rfl) .nil) rfl rfl rfl rfl rfl rfl rfl ?_
            refine al_nil ?_
            refine ad_done rfl ?_
            exact ⟨(), id, trivial, Fit.of (by repeat (first | exact trivial | refine ⟨rfl, ?_⟩)) (by repeat (first | exact trivial | refine ⟨rfl, ?_⟩)) rfl rfl⟩
          · skip
            refine al_take (x' := .hole) 202 rfl rfl rfl rfl ((hvk _).trans rfl) rfl u35 rfl (ev_tmp rfl) rfl rfl rfl rfl ?_
            refine al_nil ?_
            refine ad_all (l := [4, 16]) rfl (by simp) (.cons rfl ?_ (.cons rfl ?_ .nil))
            · skip
              refine al_op rfl rfl rfl (opP_load_pt rfl u25 rfl (ev_tmp rfl) rfl rfl) ?_
              refine al_nil ?_
              refine ad_one rfl rfl ?_
              refine al_opc rfl rfl rfl ((hvk _).trans rfl) (opC_append rfl u35 s38 z38 rfl b38 (ev_tmp rfl) (ev_tmp rfl) (.row 202 6 _ _ rfl rfl) (.row 203 6 _ _ rfl rfl) rfl rfl (by simp) rfl) ?_
              refine al_nil ?_
              refine ad_free (i := 17) rfl rfl rfl rfl rfl rfl rfl (by intro c s h; first | exact h | (obtain ⟨_, _, h, _⟩ := h; exact h)) (freeD_op rfl (opM_index_row rfl u25 s35 (ev_tmp rfl) (ev_tmp rfl) (fun _ => Int.natCast_nonneg 0) (fun _ => by decide))) ?_
              refine ad_one rfl rfl ?_
              refine al_store_pe (x' := .sl 6 [.agg [.int .i64 op, .int .i64 0, .int .i64 fl, .sl 1 [], .int .u32 imm, .sl 1 []]]) (ds := [.sl 6 [.agg [.int .i64 op, .int .i64 0, .int .i64 fl, .sl 1 [], .int .u32 imm, .sl 1 []]]]) rfl rfl rfl s35 (ev_tmp rfl) (ev_tmp rfl) rfl rfl (.cons (.row 202 6 _ _ rfl rfl) .nil) rfl rfl rfl rfl rfl rfl rfl ?_
              refine al_nil ?_
              refine ad_done rfl ?_
              exact ⟨(), id, trivial, Fit.of (by repeat (first | exact trivial | refine ⟨rfl, ?_⟩)) (by repeat (first | exact trivial | refine ⟨rfl, ?_⟩)) rfl rfl⟩
            · skip
              refine al_opc rfl rfl rfl ((hvk _).trans rfl) (opC_append rfl u35 s38 z38 rfl b38 (ev_tmp rfl) (ev_tmp rfl) (.row 202 6 _ _ rfl rfl) (.row 203 6 _ _ rfl rfl) rfl rfl (by simp) rfl) ?_
              refine al_nil ?_
              refine ad_one rfl rfl ?_
              refine al_op rfl rfl rfl (opP_load_pt rfl u25 rfl (ev_tmp rfl) rfl rfl) ?_
              refine al_nil ?_
              refine ad_free (i := 17) rfl rfl rfl rfl rfl rfl rfl (by intro c s h; first | exact h | (obtain ⟨_, _, h, _⟩ := h; exact h)) (freeD_op rfl (opM_index_row rfl u25 s35 (ev_tmp rfl) (ev_tmp rfl) (fun _ => Int.natCast_nonneg 0) (fun _ => by decide))) ?_
              refine ad_one rfl rfl ?_
              refine al_store_pe (x' := .sl 6 [.agg [.int .i64 op, .int .i64 0, .int .i64 fl, .sl 1 [], .int .u32 imm, .sl 1 []]]) (ds := [.sl 6 [.agg [.int .i64 op, .int .i64 0, .int .i64 fl, .sl 1 [], .int .u32 imm, .sl 1 []]]]) rfl rfl rfl s35 (ev_tmp rfl) (ev_tmp rfl) rfl rfl (.cons (.row 202 6 _ _ rfl rfl) .nil) rfl rfl rfl rfl rfl rfl rfl ?_
              refine al_nil ?_
              refine ad_done rfl ?_
              exact ⟨(), id, trivial, Fit.of (by repeat (first | exact trivial | refine ⟨rfl, ?_⟩)) (by repeat (first | exact trivial | refine ⟨rfl, ?_⟩)) rfl rfl⟩
  rintro _ -
  refine aw_seq ?_
  refine aw_draw mixed ?_
  apply ad_phase' [⟨0, 32, _, [], []⟩, ⟨1, 33, _, [], []⟩, ⟨2, 34, _, [1], []⟩, ⟨3, 35, _, [1, 2], []⟩, ⟨4, 36, _, [1, 2, 3], []⟩, ⟨5, 37, _, [], []⟩, ⟨6, 38, _, [5], []⟩, ⟨7, 39, _, [5, 6], [(204, .row 1 [.int .i64 _])]⟩] [0] (fuelT := 4)
  · skip
    refine .cons rfl (stepD_op rfl (opP_move rfl (ev_tmp rfl))) ?_
    refine .cons rfl (stepD_op rfl (opP_move rfl (ev_tmp rfl))) ?_
    refine .cons rfl (stepD_op rfl (opP_nilCheck rfl (ev_tmp rfl) rfl)) ?_
    refine .cons rfl (stepD_op rfl (opP_fieldAddr rfl (ev_tmp rfl) u75 rfl rfl s22 rfl)) ?_
    refine .cons rfl (stepD_op rfl (opP_load_pt rfl u22 rfl (ev_tmp rfl) rfl rfl)) ?_
    refine .cons rfl (stepD_op rfl (opP_fieldAddr rfl (ev_tmp rfl) u38 rfl rfl s3 rfl)) ?_
    refine .cons rfl (stepD_op rfl (opP_load_pt rfl u3 rfl (ev_tmp rfl) rfl rfl)) ?_
    refine .cons rfl (stepD_opc rfl (opC_buildSlice (ds := [.int .i64 _]) rfl u22 s3 z3 rfl rfl (.cons (ev_tmp rfl) .nil) rfl rfl (.cons (.v _ rfl) .nil) rfl rfl rfl)) ?_
    exact .nil
  · exact .cons rfl (freeD_op rfl (opM_move rfl (ev_tmp rfl))) (.no rfl (.no rfl (.no rfl (.no rfl (.no rfl (.no rfl (.no rfl (.nil))))))))
  · rfl
  · rfl
  · rfl
  · rfl
  · intro c s h; first | exact h | (obtain ⟨_, _, h, _⟩ := h; exact h)
  · exact hvkd _ rfl
  · rfl
  refine ad_one rfl rfl ?_
  refine al_opc rfl rfl rfl ((hvk _).trans rfl) (opC_append rfl u22 s3 z3 rfl b3 (ev_tmp rfl) (ev_tmp rfl) (.row 3 1 _ _ rfl rfl) (.row 204 1 _ _ rfl rfl) rfl rfl (by simp) rfl) ?_
  refine al_nil ?_
  refine ad_one rfl rfl ?_
  refine al_op rfl rfl rfl (opP_nilCheck rfl (ev_tmp rfl) rfl) ?_
  refine al_nil ?_
  refine ad_one rfl rfl ?_
  refine al_op rfl rfl rfl (opP_fieldAddr rfl (ev_tmp rfl) u75 rfl rfl s22 rfl) ?_
  refine al_nil ?_
  refine ad_one rfl rfl ?_
  refine al_store_pt rfl rfl rfl s22 (ev_tmp rfl) (ev_tmp rfl) rfl rfl rfl rfl rfl rfl ?_
  refine al_nil ?_
  refine ad_done rfl ?_
  refine aw_seq ?_
  refine aw_region ?_
  refine al_op rfl rfl rfl (opP_move rfl (ev_tmp rfl)) ?_
  refine al_op rfl rfl rfl (opP_nilCheck rfl (ev_tmp rfl) rfl) ?_
  refine al_op rfl rfl rfl (opP_fieldAddr rfl (ev_tmp rfl) u75 rfl rfl s22 rfl) ?_
  refine al_op rfl rfl rfl (opP_load_pt rfl u22 rfl (ev_tmp rfl) rfl rfl) ?_
  refine al_op rfl rfl rfl (opP_len rfl u22 (ev_tmp rfl) (by first | exact lenA_ints | exact lenA_map | rfl)) ?_
  refine al_op rfl rfl rfl (opP_bin rfl (ev_tmp rfl) (ev_const rfl) rfl) ?_
  refine al_op rfl rfl rfl (opP_assign rfl (ev_tmp rfl)) ?_
  refine al_nil ?_
  refine aw_seq ?_
  refine aw_seq ?_
  refine aw_region ?_
  refine al_op rfl rfl rfl (opP_fieldAddr rfl (ev_tmp rfl) u38 rfl rfl s3 rfl) ?_
  refine al_op rfl rfl rfl (opP_load_pt rfl u3 rfl (ev_tmp rfl) rfl rfl) ?_
  refine al_op rfl rfl rfl (opP_bin rfl (ev_tmp rfl) (ev_const rfl) rfl) ?_
  refine al_nil ?_
  refine aw_cond rfl (fun h1 => ?_) (fun h1 => ?_)
  · exfalso
    simp at h1
  refine aw_skip ?_
  refine aw_seq ?_
  refine aw_region ?_
  refine al_op rfl rfl rfl (opP_move rfl (ev_tmp rfl)) ?_
  refine al_op rfl rfl rfl (opP_assign rfl (ev_tmp rfl)) ?_
  refine al_nil ?_
  refine aw_ret ?_
  exact ret_id _ (.tmp rfl .nil) rfl (by repeat (first | exact trivial | refine ⟨rfl, ?_⟩)) rfl rfl
end Go.AL
namespace Go.AL
open Go.Proofs
theorem e38 : Enters Tryz.prog 38 := enters_of Tryz.func38 (by kernel_rfl) (by kernel_rfl)
set_option maxRecDepth 100000 in
set_option maxHeartbeats 4000000 in
theorem c38n : Ok Tryz.prog 38 [.pt 1 0] [(1, .var [.tok 1 0, .tok 1 1, .v (.int .i64 0), .tok 1 3, .row 2 1 0 1, .row 3 1 0 0, .tok 1 6, .tok 1 7]), (2, .row 1 [.sl 6 []]), (3, .row 1 [])] (.tup []) [(1, .var [.tok 1 0, .tok 1 1, .v (.int .i64 0), .tok 1 3, .row 2 1 0 1, .row 3 1 0 1, .tok 1 6, .tok 1 7]), (2, .row 1 [.sl 6 [instD ⟨31, 0, 0, [], 0, []⟩]]), (3, .row 1 [.int .i64 0])] := by
  refine ok_of e38 Tryz.func38 rfl (by kernel_rfl) ?_
  intro cx hP hro hN hvk
  obtain ⟨P, ro, w0, Bin, N, R0, tk0, bl0, vk⟩ := cx
  subst hP hro hN
  have hvkd := vkd_of hvk
  refine aw_seq ?_
  refine aw_region ?_
  refine al_op rfl rfl rfl (opP_build rfl u38 z38 rfl (.cons (ev_const rfl) .nil) rfl) ?_
  refine al_opc (k := 101) rfl rfl rfl ((hvk _).trans rfl) (opC_alloc rfl z38) ?_
  refine al_store_pt rfl rfl rfl s38 (ev_tmp rfl) (ev_tmp rfl) rfl rfl rfl rfl rfl rfl ?_
  refine al_nil ?_
  refine aw_seq ?_
  refine aw_seq ?_
  refine aw_region ?_
  refine al_op rfl rfl rfl (opP_move rfl (ev_tmp rfl)) ?_
  refine al_op rfl rfl rfl (opP_nilCheck rfl (ev_tmp rfl) rfl) ?_
  refine al_op rfl rfl rfl (opP_fieldAddr rfl (ev_tmp rfl) u75 rfl rfl s27 rfl) ?_
  refine al_op rfl rfl rfl (opP_fieldAddr rfl (ev_tmp rfl) u27 rfl rfl s3 rfl) ?_
  refine al_op rfl rfl rfl (opP_load_pt rfl u3 rfl (ev_tmp rfl) rfl rfl) ?_
  refine al_op rfl rfl rfl (opP_bin rfl (ev_tmp rfl) (ev_const rfl) rfl) ?_
  refine al_nil ?_
  refine aw_cond rfl (fun h1 => ?_) (fun h1 => ?_)
  · exfalso
    simp at h1
  refine aw_skip ?_
  refine aw_region ?_
  refine al_op rfl rfl rfl (opP_move rfl (ev_tmp rfl)) ?_
  refine al_op rfl rfl rfl (opP_load_ptn rfl u38 rfl s38 (ev_tmp rfl) rfl rfl) ?_
  refine al_call id rfl rfl rfl (callOf_func rfl (.cons (ev_tmp rfl) (.cons (ev_tmp rfl) .nil))) (c79n 31 0 0) (.cons (.ptL 1 0 rfl) (.cons (Vw.stOf (by repeat (first | exact .nil | refine .cons (.v _) ?_ | refine .cons .nil ?_))) .nil)) ?_ rfl rfl rfl ?_ ?_
  · intro p hp
    simp at hp
    rcases hp with rfl | rfl | rfl
    · exact Lend.varOf rfl (.tok (.tok (.tok (.tok (.vw (.rowL 2 1 0 1 rfl) (.vw (.rowL 3 1 0 0 rfl) (.tok (.tok (.nil _)))))))))
    · exact .row 1 _ rfl
    · exact .row 1 _ rfl
  · intro p hp
    simp at hp
    rcases hp with rfl | rfl | rfl
    · exact .inl rfl
    · exact .inr ((hvk _).trans rfl)
    · exact .inr ((hvk _).trans rfl)
  refine al_nil ?_
  exact end_id _ .nil rfl (by repeat (first | exact trivial | refine ⟨rfl, ?_⟩)) rfl rfl
theorem e34 : Enters Tryz.prog 34 := enters_of Tryz.func34 (by kernel_rfl) (by kernel_rfl)
set_option maxRecDepth 100000 in
set_option maxHeartbeats 4000000 in
theorem c34n (p : Bool) : Ok Tryz.prog 34 [.nil, .v (.bool p)] [] (.pt 34001 0) [(34001, .var [.clo 83 [.pt 40001 0, .pt 40002 0], .nil, .v (.int .i64 0), .nil, .row 76001 1 0 1, .row 59001 1 0 0, .nil, .v (.bool p)]), (40001, .var [.v (.int .i64 0)]), (40002, .var [.nil]), (76001, .row 1 [.sl 6 []]), (59001, .row 1 [])] := by
  refine ok_of e34 Tryz.func34 rfl (by kernel_rfl) ?_
  intro cx hP hro hN hvk
  obtain ⟨P, ro, w0, Bin, N, R0, tk0, bl0, vk⟩ := cx
  subst hP hro hN
  have hvkd := vkd_of hvk
  refine aw_seq ?_
  refine aw_region ?_
  refine al_op rfl rfl rfl (opP_assign rfl (ev_const rfl)) ?_
  refine al_nil ?_
  refine aw_seq ?_
  refine aw_region ?_
  refine al_op rfl rfl rfl (opP_move rfl (ev_tmp rfl)) ?_
  refine al_call id rfl rfl rfl (callOf_func rfl (.cons (ev_tmp rfl) .nil)) c40n (.cons .nil .nil) (fun _ h => absurd h (by simp)) rfl rfl rfl (fun p hp => .inr ((hvk _).trans (by simp at hp; rcases hp with rfl | rfl <;> rfl))) ?_
  refine al_op rfl rfl rfl (opP_move rfl (ev_tmp rfl)) ?_
  refine al_op rfl rfl rfl (opP_build rfl u75 z75 rfl (.cons (ev_tmp rfl) (.cons (ev_tmp rfl) .nil)) rfl) ?_
  refine al_opc (k := 34001) rfl rfl rfl ((hvk _).trans rfl) (opC_box rfl (ev_tmp rfl) rfl) ?_
  refine al_op rfl rfl rfl (opP_assign rfl (ev_tmp rfl)) ?_
  refine al_nil ?_
  refine aw_seq ?_
  refine aw_seq ?_
  refine aw_region ?_
  refine al_op rfl rfl rfl (opP_move rfl (ev_tmp rfl)) ?_
  refine al_op rfl rfl rfl (opP_nilCheck rfl (ev_tmp rfl) rfl) ?_
  refine al_op rfl rfl rfl (opP_fieldAddr rfl (ev_tmp rfl) u75 rfl rfl s73 rfl) ?_
  refine al_op rfl rfl rfl (opP_load_pt rfl u73 rfl (ev_tmp rfl) rfl rfl) ?_
  refine al_call id rfl rfl rfl (callOf_clo rfl (ev_tmp rfl) (.cons (ev_const rfl) .nil)) (c83n 4) (by repeat' (first | refine Vw.ptOf rfl rfl rfl ?_ | refine Vw.prvOf ?_ | refine Vw.cloOf ?_ | constructor)) (fun _ h => absurd h (by simp)) rfl rfl rfl (fun _ h => absurd h (by simp)) ?_
  refine al_op rfl rfl rfl (opP_move rfl (ev_const rfl)) ?_
  refine al_nil ?_
  refine aw_block ?_
  refine aw_loopO ?_
  refine aw_seq ?_
  refine aw_region ?_
  refine al_op rfl rfl rfl (opP_bin rfl (ev_tmp rfl) (ev_tmp rfl) rfl) ?_
  refine al_nil ?_
  refine aw_seq ?_
  refine aw_cond rfl (fun h1 => ?_) (fun h1 => ?_)
  · exfalso
    simp at h1
  refine aw_exit ?_
  refine aw_seq ?_
  refine aw_region ?_
  refine al_op rfl rfl rfl (opP_move rfl (ev_tmp rfl)) ?_
  refine al_op rfl rfl rfl (opP_move rfl (ev_tmp rfl)) ?_
  refine al_op rfl rfl rfl (opP_nilCheck rfl (ev_tmp rfl) rfl) ?_
  refine al_op rfl rfl rfl (opP_fieldAddr rfl (ev_tmp rfl) u75 rfl rfl s27 rfl) ?_
  refine al_op rfl rfl rfl (opP_fieldAddr rfl (ev_tmp rfl) u27 rfl rfl s22 rfl) ?_
  refine al_op rfl rfl rfl (opP_load_pt rfl u22 rfl (ev_tmp rfl) rfl rfl) ?_
  refine al_call id rfl rfl rfl (callOf_func rfl (.cons (ev_tmp rfl) .nil)) (c59 [] (by simp)) (.cons (.nild 1) .nil) (fun _ h => absurd h (by simp)) rfl rfl rfl (fun p hp => .inr ((hvk _).trans (by simp at hp; subst hp; rfl))) ?_
  refine al_op rfl rfl rfl (opP_nilCheck rfl (ev_tmp rfl) rfl) ?_
  refine al_op rfl rfl rfl (opP_fieldAddr rfl (ev_tmp rfl) u75 rfl rfl s22 rfl) ?_
  refine al_store_pt rfl rfl rfl s22 (ev_tmp rfl) (ev_tmp rfl) rfl rfl rfl rfl rfl rfl ?_
  refine al_nil ?_
  refine aw_seq ?_
  refine aw_seq ?_
  refine aw_region ?_
  refine al_op rfl rfl rfl (opP_move rfl (ev_tmp rfl)) ?_
  refine al_op rfl rfl rfl (opP_nilCheck rfl (ev_tmp rfl) rfl) ?_
  refine al_op rfl rfl rfl (opP_fieldAddr rfl (ev_tmp rfl) u75 rfl rfl s73 rfl) ?_
  refine al_op rfl rfl rfl (opP_load_pt rfl u73 rfl (ev_tmp rfl) rfl rfl) ?_
  refine al_call id rfl rfl rfl (callOf_clo rfl (ev_tmp rfl) (.cons (ev_const rfl) .nil)) (c83n 4) (by repeat' (first | refine Vw.ptOf rfl rfl rfl ?_ | refine Vw.prvOf ?_ | refine Vw.cloOf ?_ | constructor)) (fun _ h => absurd h (by simp)) rfl rfl rfl (fun _ h => absurd h (by simp)) ?_
  refine al_op rfl rfl rfl (opP_bin rfl (ev_tmp rfl) (ev_const rfl) rfl) ?_
  refine al_nil ?_
  refine aw_cond rfl (fun h2 => ?_) (fun h2 => ?_)
  · exfalso
    simp at h2
  refine aw_skip ?_
  refine aw_seq ?_
  refine aw_seq ?_
  refine aw_region ?_
  refine al_op rfl rfl rfl (opP_move rfl (ev_tmp rfl)) ?_
  refine al_op rfl rfl rfl (opP_not rfl (ev_tmp rfl)) ?_
  refine al_nil ?_
  refine aw_condS rfl (fun h3 => ?_) (fun h3 => ?_)
  · refine aw_skip ?_
    refine aw_seq ?_
    refine aw_region ?_
    refine al_op rfl rfl rfl (opP_move rfl (ev_tmp rfl)) ?_
    refine al_call (fun k => bif Nat.beq k 1 then 34001 else k) rfl rfl rfl (callOf_func rfl (.cons (ev_tmp rfl) .nil)) c76n (.cons (.ptL (ρ := fun k => bif Nat.beq k 1 then 34001 else k) 1 0 rfl) .nil) ?_ rfl rfl rfl ?_ ?_
    · intro p hp
      simp at hp
      subst hp
      exact Lend.varOf rfl (.tok (.tok (.tok (.tok (.vw .nil (.tok (.tok (.tok (.nil _)))))))))
    · intro p hp
      simp at hp
      rcases hp with rfl | rfl
      · exact .inl rfl
      · exact .inr ((hvk _).trans rfl)
    refine al_nil ?_
    refine aw_seq ?_
    refine aw_region ?_
    refine al_op rfl rfl rfl (opP_move rfl (ev_tmp rfl)) ?_
    refine al_op rfl rfl rfl (opP_assign rfl (ev_tmp rfl)) ?_
    refine al_nil ?_
    refine aw_ret ?_
    exact ret_id _ (.tmp rfl .nil) rfl (by repeat (first | exact trivial | refine ⟨rfl, ?_⟩)) rfl rfl
  refine aw_seq ?_
  refine aw_region ?_
  refine al_op rfl rfl rfl (opP_move rfl (ev_tmp rfl)) ?_
  refine al_op rfl rfl rfl (opP_nilCheck rfl (ev_tmp rfl) rfl) ?_
  refine al_op rfl rfl rfl (opP_fieldAddr rfl (ev_tmp rfl) u75 rfl rfl s73 rfl) ?_
  refine al_op rfl rfl rfl (opP_load_pt rfl u73 rfl (ev_tmp rfl) rfl rfl) ?_
  refine al_call id rfl rfl rfl (callOf_clo rfl (ev_tmp rfl) (.cons (ev_const rfl) .nil)) (c83n 3) (by repeat' (first | refine Vw.ptOf rfl rfl rfl ?_ | refine Vw.prvOf ?_ | refine Vw.cloOf ?_ | constructor)) (fun _ h => absurd h (by simp)) rfl rfl rfl (fun _ h => absurd h (by simp)) ?_
  refine al_op rfl rfl rfl (opP_move rfl (ev_const rfl)) ?_
  refine al_nil ?_
  refine aw_block ?_
  refine aw_loopO ?_
  refine aw_seq ?_
  refine aw_region ?_
  refine al_op rfl rfl rfl (opP_bin rfl (ev_tmp rfl) (ev_tmp rfl) rfl) ?_
  refine al_nil ?_
  refine aw_seq ?_
  refine aw_cond rfl (fun h4 => ?_) (fun h4 => ?_)
  · exfalso
    simp at h4
  refine aw_exit ?_
  refine aw_seq ?_
  refine aw_region ?_
  refine al_op rfl rfl rfl (opP_move rfl (ev_tmp rfl)) ?_
  refine al_call (fun k => bif Nat.beq k 1 then 34001 else k) rfl rfl rfl (callOf_func rfl (.cons (ev_tmp rfl) .nil)) c76n (.cons (.ptL (ρ := fun k => bif Nat.beq k 1 then 34001 else k) 1 0 rfl) .nil) ?_ rfl rfl rfl ?_ ?_
  · intro p hp
    simp at hp
    subst hp
    exact Lend.varOf rfl (.tok (.tok (.tok (.tok (.vw .nil (.tok (.tok (.tok (.nil _)))))))))
  · intro p hp
    simp at hp
    rcases hp with rfl | rfl
    · exact .inl rfl
    · exact .inr ((hvk _).trans rfl)
  refine al_nil ?_
  refine aw_seq ?_
  refine aw_region ?_
  refine al_op rfl rfl rfl (opP_move rfl (ev_tmp rfl)) ?_
  refine al_op rfl rfl rfl (opP_assign rfl (ev_tmp rfl)) ?_
  refine al_nil ?_
  refine aw_ret ?_
  exact ret_id _ (.tmp rfl .nil) rfl (by repeat (first | exact trivial | refine ⟨rfl, ?_⟩)) rfl rfl
end Go.AL
namespace Go.AL
open Go.Proofs
theorem e111 : Enters Tryz.prog 111 := enters_of Tryz.func111 (by kernel_rfl) (by kernel_rfl)
set_option maxRecDepth 100000 in
set_option maxHeartbeats 4000000 in
theorem c111 (x : Inst) (hx : x.Fits) : Ok Tryz.prog 111 [.dat none (instD x)] [] (.st [.v (.int .i64 x.op), .v (.int .i64 x.w), .v (.int .i64 x.fl), .row 111001 1 0 x.args.length, .v (.int .u32 x.imm), .row 111002 1 0 x.to.length]) [(111001, .row 1 (ints x.args)), (111002, .row 1 (ints x.to))] := by
  refine ok_of e111 Tryz.func111 rfl (by kernel_rfl) ?_
  intro cx hP hro hN hvk
  obtain ⟨P, ro, w0, Bin, N, R0, tk0, bl0, vk⟩ := cx
  subst hP hro hN
  have hvkd := vkd_of hvk
  refine aw_seq ?_
  refine aw_region ?_
  refine al_opc (k := 101) rfl rfl rfl ((hvk _).trans rfl) (opC_box rfl (ev_tmp rfl) rfl) ?_
  refine al_opc (k := 102) rfl rfl rfl ((hvk _).trans rfl) (opC_alloc rfl z38) ?_
  refine al_nil ?_
  refine aw_seq ?_
  refine aw_draw mixed ?_
  apply ad_phase' [⟨0, 3, _, [], []⟩, ⟨1, 4, _, [0], []⟩, ⟨2, 5, .row 111001 1 0 x.args.length, [0, 1], [(111001, .row 1 (ints x.args))]⟩, ⟨3, 6, _, [], []⟩, ⟨4, 7, _, [3], []⟩, ⟨5, 8, .row 111002 1 0 x.to.length, [0, 1, 2, 3, 4], [(111002, .row 1 (ints x.to))]⟩, ⟨6, 9, _, [0, 1, 2, 3, 4], []⟩] [6] (fuelT := 3)
  · skip
    refine .cons rfl (stepD_op rfl (opP_fieldAddr rfl (ev_tmp rfl) u38 rfl rfl s22 rfl)) ?_
    refine .cons rfl (stepD_op rfl (opP_load_pt rfl u22 rfl (ev_tmp rfl) rfl rfl)) ?_
    refine .cons rfl (stepD_call (fun _ => 111001) rfl (callOf_func rfl (.cons (ev_tmp rfl) .nil)) (c59 x.args hx.args) (by repeat' (first | refine Vw.stDOf ?_ | refine Vw.ptOf rfl rfl rfl ?_ | refine Vw.prvOf ?_ | refine Vw.cloOf ?_ | constructor)) rfl rfl rfl (fun _ => rfl) (fun _ => rfl)) ?_
    refine .cons rfl (stepD_op rfl (opP_fieldAddr rfl (ev_tmp rfl) u38 rfl rfl s22 rfl)) ?_
    refine .cons rfl (stepD_op rfl (opP_load_pt rfl u22 rfl (ev_tmp rfl) rfl rfl)) ?_
    refine .cons rfl (stepD_call (fun _ => 111002) rfl (callOf_func rfl (.cons (ev_tmp rfl) .nil)) (c59 x.to hx.to) (by repeat' (first | refine Vw.stDOf ?_ | refine Vw.ptOf rfl rfl rfl ?_ | refine Vw.prvOf ?_ | refine Vw.cloOf ?_ | constructor)) rfl rfl rfl (fun _ => rfl) (fun _ => rfl)) ?_
    refine .cons rfl (stepD_op rfl (opP_fieldAddr rfl (ev_tmp rfl) u38 rfl rfl s22 rfl)) ?_
    exact .nil
  · exact .no rfl (.no rfl (.no rfl (.no rfl (.no rfl (.no rfl (.cons rfl (freeD_op rfl (opM_fieldAddr rfl (ev_tmp rfl) u38 rfl rfl s22 rfl)) (.nil)))))))
  · rfl
  · rfl
  · rfl
  · rfl
  · intro c s h; first | exact h | (obtain ⟨_, _, h, _⟩ := h; exact h)
  · exact hvkd _ rfl
  · rfl
  refine ad_one rfl rfl ?_
  refine al_store_pt rfl rfl rfl s22 (ev_tmp rfl) (ev_tmp rfl) rfl rfl rfl rfl rfl rfl ?_
  refine al_nil ?_
  refine ad_one rfl rfl ?_
  refine al_op rfl rfl rfl (opP_fieldAddr rfl (ev_tmp rfl) u38 rfl rfl s22 rfl) ?_
  refine al_nil ?_
  refine ad_one rfl rfl ?_
  refine al_store_pt rfl rfl rfl s22 (ev_tmp rfl) (ev_tmp rfl) rfl rfl rfl rfl rfl rfl ?_
  refine al_nil ?_
  refine ad_done rfl ?_
  refine aw_seq ?_
  refine aw_region ?_
  refine al_op rfl rfl rfl (opP_load_ptn rfl u38 rfl s38 (ev_tmp rfl) rfl rfl) ?_
  refine al_store_pt rfl rfl rfl s38 (ev_tmp rfl) (ev_tmp rfl) rfl rfl rfl rfl rfl rfl ?_
  refine al_nil ?_
  refine aw_ret ?_
  exact ret_id [.st [_, _, _, _, _, _]] (.celln' rfl u38 rfl s38 rfl rfl rfl .nil) rfl ⟨rfl, rfl, trivial⟩ rfl rfl
theorem e55 : Enters Tryz.prog 55 := enters_of Tryz.func55 (by kernel_rfl) (by kernel_rfl)
set_option maxRecDepth 100000 in
set_option maxHeartbeats 4000000 in
theorem c55 (f : Fn) (hf : f.Fits) : Ok Tryz.prog 55 [.dat none (fnD f)] [] (.st [.row 55001 1 0 f.params.length, .v (.int .i64 f.ret), .row 55002 1 0 f.slots.length, .row 55003 1 0 f.blocks.length]) [(55001, .row 1 (ints f.params)), (55002, .row 1 (ints f.slots)), (55003, .row 1 (f.blocks.map instsD))] := by
  refine ok_of e55 Tryz.func55 rfl (by kernel_rfl) ?_
  intro cx hP hro hN hvk
  obtain ⟨P, ro, w0, Bin, N, R0, tk0, bl0, vk⟩ := cx
  subst hP hro hN
  have hvkd := vkd_of hvk
  refine aw_seq ?_
  refine aw_region ?_
  refine al_opc (k := 101) rfl rfl rfl ((hvk _).trans rfl) (opC_box rfl (ev_tmp rfl) rfl) ?_
  refine al_opc (k := 102) rfl rfl rfl ((hvk _).trans rfl) (opC_alloc rfl z27) ?_
  refine al_nil ?_
  refine aw_seq ?_
  refine aw_draw mixed ?_
  apply ad_phase' [⟨0, 9, _, [], []⟩, ⟨1, 10, _, [0], []⟩, ⟨2, 11, .row 55001 1 0 f.params.length, [0, 1], [(55001, .row 1 (ints f.params))]⟩, ⟨3, 12, _, [], []⟩, ⟨4, 13, _, [3], []⟩, ⟨5, 14, _, [], []⟩, ⟨6, 15, _, [5], []⟩, ⟨7, 16, .row 55002 1 0 f.slots.length, [0, 1, 2, 5, 6], [(55002, .row 1 (ints f.slots))]⟩, ⟨8, 17, .st [.row 55001 1 0 f.params.length, .v (.int .i64 f.ret), .row 55002 1 0 f.slots.length, .nil], [0, 1, 2, 3, 4, 5, 6, 7], []⟩, ⟨9, 3, _, [], [(103, _)]⟩] [] (fuelT := 1)
  · skip
    refine .cons rfl (stepD_op rfl (opP_fieldAddr rfl (ev_tmp rfl) u27 rfl rfl s22 rfl)) ?_
    refine .cons rfl (stepD_op rfl (opP_load_pt rfl u22 rfl (ev_tmp rfl) rfl rfl)) ?_
    refine .cons rfl (stepD_call (fun _ => 55001) rfl (callOf_func rfl (.cons (ev_tmp rfl) .nil)) (c59 f.params hf.params) (by repeat' (first | refine Vw.stDOf ?_ | refine Vw.ptOf rfl rfl rfl ?_ | refine Vw.prvOf ?_ | refine Vw.cloOf ?_ | constructor)) rfl rfl rfl (fun _ => rfl) (fun _ => rfl)) ?_
    refine .cons rfl (stepD_op rfl (opP_fieldAddr rfl (ev_tmp rfl) u27 rfl rfl s3 rfl)) ?_
    refine .cons rfl (stepD_op rfl (opP_load_pt rfl u3 rfl (ev_tmp rfl) rfl rfl)) ?_
    refine .cons rfl (stepD_op rfl (opP_fieldAddr rfl (ev_tmp rfl) u27 rfl rfl s22 rfl)) ?_
    refine .cons rfl (stepD_op rfl (opP_load_pt rfl u22 rfl (ev_tmp rfl) rfl rfl)) ?_
    refine .cons rfl (stepD_call (fun _ => 55002) rfl (callOf_func rfl (.cons (ev_tmp rfl) .nil)) (c59 f.slots hf.slots) (by repeat' (first | refine Vw.stDOf ?_ | refine Vw.ptOf rfl rfl rfl ?_ | refine Vw.prvOf ?_ | refine Vw.cloOf ?_ | constructor)) rfl rfl rfl (fun _ => rfl) (fun _ => rfl)) ?_
    refine .cons rfl (stepD_op rfl (opP_build rfl u27 z27 rfl (.cons (ev_tmp rfl) (.cons (ev_tmp rfl) (.cons (ev_tmp rfl) .nil))) rfl)) ?_
    refine .cons rfl (stepD_opc rfl (opC_alloc rfl z27)) ?_
    exact .nil
  · exact .no rfl (.no rfl (.no rfl (.no rfl (.no rfl (.no rfl (.no rfl (.no rfl (.no rfl (.no rfl (.nil))))))))))
  · rfl
  · rfl
  · rfl
  · rfl
  · intro c s h; first | exact h | (obtain ⟨_, _, h, _⟩ := h; exact h)
  · exact hvkd _ rfl
  · rfl
  refine ad_one rfl rfl ?_
  refine al_store_pt rfl rfl rfl s27 (ev_tmp rfl) (ev_tmp rfl) rfl rfl rfl rfl rfl rfl ?_
  refine al_nil ?_
  refine ad_done rfl ?_
  refine aw_seq ?_
  refine aw_seq ?_
  refine aw_region ?_
  refine al_imp (imp_nilcell (k := 55003) (es := 1) (j := 103) (oo := 3) ((hvk _).trans rfl) rfl rfl rfl) ?_
  refine al_op rfl rfl rfl (opP_fieldAddr rfl (ev_tmp rfl) u27 rfl rfl s25 rfl) ?_
  refine al_op rfl rfl rfl (opP_load_pt rfl u25 rfl (ev_tmp rfl) rfl rfl) ?_
  refine al_op rfl rfl rfl (opP_len rfl u25 (ev_tmp rfl) (by first | exact lenA_ints | exact lenA_map | rfl)) ?_
  refine al_op rfl rfl rfl (opP_move rfl (ev_const rfl)) ?_
  refine al_nil ?_
  refine aw_block ?_
  refine aw_loop' (α := Nat) (fun i => [(2, .pt 102 0), (3, .pt 103 0), (19, .dat none (.sl 1 (f.blocks.map instsD))), (20, .v (.int .i64 f.blocks.length)), (21, .v (.int .i64 i))]) (fun i => [(102, .var [.nil, .v (.int .i64 0), .nil, .nil]), (103, .var [.row 55001 1 0 f.params.length, .v (.int .i64 f.ret), .row 55002 1 0 f.slots.length, .row 55003 1 0 i]), (55001, .row 1 (ints f.params)), (55002, .row 1 (ints f.slots)), (55003, .row 1 ((f.blocks.take i).map instsD))]) (fun i => i ≤ f.blocks.length) (fun i => f.blocks.length - i) 0 (Nat.zero_le _) id (Fit.of (by repeat (first | exact trivial | refine ⟨rfl, ?_⟩)) (by repeat (first | exact trivial | refine ⟨rfl, ?_⟩)) rfl rfl) ?_
  rintro i hi
  refine aw_seq ?_
  refine aw_region ?_
  refine al_op rfl rfl rfl (opP_bin rfl (ev_tmp rfl) (ev_tmp rfl) rfl) ?_
  refine al_nil ?_
  refine aw_seq ?_
  refine aw_condS rfl (fun h1 => ?_) (fun h1 => ?_)
  · have ei : i = f.blocks.length := by simp at h1; omega
    subst ei
    rw [List.take_length]
    refine aw_exit ?_
    refine aw_seq ?_
    refine aw_region ?_
    refine al_op rfl rfl rfl (opP_load_ptn rfl u27 rfl s27 (ev_tmp rfl) rfl rfl) ?_
    refine al_store_pt rfl rfl rfl s27 (ev_tmp rfl) (ev_tmp rfl) rfl rfl rfl rfl rfl rfl ?_
    refine al_nil ?_
    refine aw_ret ?_
    exact ret_id [.st [_, _, _, _]] (.celln' rfl u27 rfl s27 rfl rfl rfl .nil) rfl ⟨rfl, rfl, rfl, trivial⟩ rfl rfl
  have hil : i < f.blocks.length := by simpa using h1
  have hbf := hf.blocks
  obtain ⟨l, hl⟩ : ∃ l, l = f.blocks[i] := ⟨_, rfl⟩
  have hlm : l ∈ f.blocks := by rw [hl]; exact List.getElem_mem hil
  have hlf := hf.insts l hlm
  refine aw_skip ?_
  refine aw_seq ?_
  refine aw_block ?_
  refine aw_seq ?_
  refine aw_region ?_
  refine al_op rfl rfl rfl (opP_index_dat rfl u25 s35 (ev_tmp rfl) (ev_tmp rfl) (fun _ => Int.natCast_nonneg _) (fun _ => blocks_get hil)) ?_
  refine al_op rfl rfl rfl (opP_load_pr rfl u35 rfl (ev_tmp rfl)) ?_
  rw [← hl]
  refine al_op rfl rfl rfl (opP_assign rfl (ev_tmp rfl)) ?_
  refine al_nil ?_
  refine aw_seq ?_
  refine aw_region ?_
  refine al_op rfl rfl rfl (opP_assign rfl (ev_const rfl)) ?_
  refine al_imp (imp_nilrow (k := 55010) (es := 6) (t := 6) ((hvk _).trans rfl) rfl) ?_
  refine al_nil ?_
  refine aw_seq ?_
  refine aw_seq ?_
  refine aw_region ?_
  refine al_op rfl rfl rfl (opP_move rfl (ev_tmp rfl)) ?_
  refine al_op rfl rfl rfl (opP_len rfl u35 (ev_tmp rfl) (by first | exact lenA_ints | exact lenA_map | rfl)) ?_
  refine al_op rfl rfl rfl (opP_move rfl (ev_const rfl)) ?_
  refine al_nil ?_
  refine aw_block ?_
  refine aw_loop' (α := Nat) (fun j => [(2, .pt 102 0), (3, .pt 103 0), (19, .dat none (.sl 1 (f.blocks.map instsD))), (20, .v (.int .i64 f.blocks.length)), (21, .v (.int .i64 i)), (6, .row 55010 6 0 j), (25, .dat none (instsD l)), (26, .v (.int .i64 l.length)), (27, .v (.int .i64 j))]) (fun j => [(102, .var [.nil, .v (.int .i64 0), .nil, .nil]), (103, .var [.row 55001 1 0 f.params.length, .v (.int .i64 f.ret), .row 55002 1 0 f.slots.length, .row 55003 1 0 i]), (55001, .row 1 (ints f.params)), (55002, .row 1 (ints f.slots)), (55003, .row 1 ((f.blocks.take i).map instsD)), (55010, .row 6 ((l.take j).map instD))]) (fun j => j ≤ l.length) (fun j => l.length - j) 0 (Nat.zero_le _) id (Fit.of (by repeat (first | exact trivial | refine ⟨rfl, ?_⟩)) (by repeat (first | exact trivial | refine ⟨rfl, ?_⟩)) rfl rfl) ?_
  rintro j hj
  refine aw_seq ?_
  refine aw_region ?_
  refine al_op rfl rfl rfl (opP_bin rfl (ev_tmp rfl) (ev_tmp rfl) rfl) ?_
  refine al_nil ?_
  refine aw_seq ?_
  refine aw_condS rfl (fun h2 => ?_) (fun h2 => ?_)
  · have ej : j = l.length := by simp [instsD] at h2; omega
    subst ej
    rw [List.take_length]
    refine aw_exit ?_
    refine aw_region ?_
    refine al_op rfl rfl rfl (opP_fieldAddr rfl (ev_tmp rfl) u27 rfl rfl s25 rfl) ?_
    refine al_op rfl rfl rfl (opP_load_pt rfl u25 rfl (ev_tmp rfl) rfl rfl) ?_
    refine al_op rfl rfl rfl (opP_move rfl (ev_tmp rfl)) ?_
    refine al_opc (k := 122) rfl rfl rfl ((hvk _).trans rfl) (opC_buildSlice (ds := [.sl 6 (l.map instD)]) rfl u25 s35 z35 rfl rfl (.cons (ev_tmp rfl) .nil) rfl rfl (.cons (.row 55010 6 _ _ rfl (by rw [List.length_map])) .nil) rfl rfl rfl) ?_
    refine al_opc rfl rfl rfl ((hvk _).trans rfl) (opC_append rfl u25 s35 z35 rfl b35 (ev_tmp rfl) (ev_tmp rfl) (.row 55003 1 _ _ rfl (by rw [List.length_map, List.length_take, Nat.min_eq_left (by omega)])) (.row 122 1 _ _ rfl rfl) rfl rfl (by rw [List.length_map, List.length_take, Nat.min_eq_left (by omega)]; simp; omega) rfl) ?_
    refine al_op rfl rfl rfl (opP_fieldAddr rfl (ev_tmp rfl) u27 rfl rfl s25 rfl) ?_
    refine al_store_pt rfl rfl rfl s25 (ev_tmp rfl) (ev_tmp rfl) rfl rfl rfl rfl rfl rfl ?_
    refine al_nil ?_
    refine aw_region ?_
    refine al_op rfl rfl rfl (opP_bin rfl (ev_tmp rfl) (ev_const rfl) rfl) ?_
    refine al_op rfl rfl rfl (opP_move rfl (ev_tmp rfl)) ?_
    refine al_nil ?_
    refine ⟨i + 1, id, hil, by omega, Fit.of ⟨rfl, ?_, rfl, rfl, ?_, trivial⟩ ⟨rfl, rfl, rfl, rfl, by rw [← wrapS (by omega)]; rfl, trivial⟩ rfl rfl⟩
    · show some (O.var [_, _, _, A.row 55003 1 0 (((f.blocks.take i).map instsD).length + 1)]) = _
      rw [List.length_map, List.length_take, Nat.min_eq_left (by omega)]; rfl
    · rw [List.take_succ_eq_append_getElem hil, List.map_append, ← hl]; rfl
  have hjl : j < l.length := by simpa [instsD] using h2
  have hxf := hf.inst l hlm l[j] (List.getElem_mem hjl)
  refine aw_skip ?_
  refine aw_seq ?_
  refine aw_block ?_
  refine aw_seq ?_
  refine aw_region ?_
  refine al_op rfl rfl rfl (opP_index_dat rfl u35 s38 (ev_tmp rfl) (ev_tmp rfl) (fun _ => Int.natCast_nonneg _) (fun _ => insts_get hjl)) ?_
  refine al_op rfl rfl rfl (opP_load_prn rfl u38 rfl s38 (ev_tmp rfl) rfl) ?_
  refine al_opc (k := 120) rfl rfl rfl ((hvk _).trans rfl) (opC_alloc rfl z38) ?_
  refine al_store_pt rfl rfl rfl s38 (ev_tmp rfl) (ev_tmp rfl) rfl rfl rfl rfl rfl rfl ?_
  refine al_nil ?_
  refine aw_region ?_
  refine al_op rfl rfl rfl (opP_move rfl (ev_tmp rfl)) ?_
  refine al_op rfl rfl rfl (opP_load_ptn rfl u38 rfl s38 (ev_tmp rfl) rfl rfl) ?_
  refine al_call (id) rfl rfl rfl (callOf_func rfl (.cons (ev_tmp rfl) .nil)) (c111 l[j] hxf) (by repeat' (first | refine Vw.stDOf ?_ | refine Vw.ptOf rfl rfl rfl ?_ | refine Vw.prvOf ?_ | refine Vw.cloOf ?_ | constructor)) (fun _ h => absurd h (by simp)) rfl rfl rfl (fun p hp => .inr ((hvk _).trans (by simp at hp; rcases hp with rfl | rfl <;> rfl))) ?_
  refine al_opc (k := 121) rfl rfl rfl ((hvk _).trans rfl) (opC_buildSlice (ds := [.agg [.int .i64 l[j].op, .int .i64 l[j].w, .int .i64 l[j].fl, .sl 1 (ints l[j].args), .int .u32 l[j].imm, .sl 1 (ints l[j].to)]]) rfl u35 s38 z38 rfl rfl (.cons (ev_tmp rfl) .nil) rfl rfl (.cons (.v _ rfl) (.cons (.v _ rfl) (.cons (.v _ rfl) (.cons (.row 111001 1 _ _ rfl (by rw [ints_len])) (.cons (.v _ rfl) (.cons (.row 111002 1 _ _ rfl (by rw [ints_len])) .nil)))))) rfl rfl rfl) ?_
  refine al_opc rfl rfl rfl ((hvk _).trans rfl) (opC_append rfl u35 s38 z38 rfl b38 (ev_tmp rfl) (ev_tmp rfl) (.row 55010 6 _ _ rfl (by rw [List.length_map, List.length_take, Nat.min_eq_left (by omega)])) (.row 121 6 _ _ rfl rfl) rfl rfl (by rw [List.length_map, List.length_take, Nat.min_eq_left (by omega)]; simp; omega) rfl) ?_
  refine al_op rfl rfl rfl (opP_assign rfl (ev_tmp rfl)) ?_
  refine al_nil ?_
  refine aw_region ?_
  refine al_op rfl rfl rfl (opP_bin rfl (ev_tmp rfl) (ev_const rfl) rfl) ?_
  refine al_op rfl rfl rfl (opP_move rfl (ev_tmp rfl)) ?_
  refine al_nil ?_
  refine ⟨j + 1, id, hjl, by omega, Fit.of ⟨rfl, rfl, rfl, rfl, rfl, ?_, trivial⟩ ⟨rfl, rfl, rfl, rfl, rfl, ?_, rfl, rfl, by rw [← wrapS (by omega)]; rfl, trivial⟩ rfl rfl⟩
  · rw [List.take_succ_eq_append_getElem hjl, List.map_append]; rfl
  · show A.row 55010 6 0 (((l.take j).map instD).length + 1) = _
    rw [List.length_map, List.length_take, Nat.min_eq_left (by omega)]
end Go.AL
namespace Go.AL
open Go.Proofs
def f0 : Fn := ⟨[], 0, [], [[⟨31, 0, 0, [], 0, []⟩]]⟩
theorem f0_fits : f0.Fits := by
  constructor <;> simp [f0, I64]
  constructor <;> simp [I64]
theorem f0_ok : validateR f0 = 0 := by decide
theorem e39 : Enters Tryz.prog 39 := enters_of Tryz.func39 (by kernel_rfl) (by kernel_rfl)
set_option maxRecDepth 100000 in
set_option maxHeartbeats 4000000 in
theorem c39n (f : Fn) (hf : f.Fits) (h0 : validateR f = 0) : Ok Tryz.prog 39 [.prv [.any, .dat none (.sl 1 (ints f.params)), .v (.int .i64 f.ret), .dat none (.sl 1 (ints f.slots)), .dat none (.sl 1 (f.blocks.map instsD)), .any, .any, .any]] [] (.st [.row 55001 1 0 f.params.length, .v (.int .i64 f.ret), .row 55002 1 0 f.slots.length, .row 55003 1 0 f.blocks.length]) [(55001, .row 1 (ints f.params)), (55002, .row 1 (ints f.slots)), (55003, .row 1 (f.blocks.map instsD))] := by
  refine ok_of e39 Tryz.func39 rfl (by kernel_rfl) ?_
  intro cx hP hro hN hvk
  obtain ⟨P, ro, w0, Bin, N, R0, tk0, bl0, vk⟩ := cx
  subst hP hro hN
  have hvkd := vkd_of hvk
  refine aw_seq ?_
  refine aw_region ?_
  refine al_opc (k := 101) rfl rfl rfl ((hvk _).trans rfl) (opC_alloc rfl z27) ?_
  refine al_nil ?_
  refine aw_seq ?_
  refine aw_seq ?_
  refine aw_region ?_
  refine al_op rfl rfl rfl (opP_move rfl (ev_tmp rfl)) ?_
  refine al_op rfl rfl rfl (opP_nilCheck rfl (ev_tmp rfl) rfl) ?_
  refine al_op rfl rfl rfl (opP_fieldAddr rfl (ev_tmp rfl) u75 rfl rfl s27 rfl) ?_
  refine al_op rfl rfl rfl (opP_load_prvn rfl u27 rfl s27 (ev_tmp rfl) rfl) ?_
  refine al_call (id) rfl rfl rfl (callOf_func rfl (.cons (ev_tmp rfl) .nil)) (c50 f hf) (by repeat' (first | refine Vw.stDOf ?_ | refine Vw.ptOf rfl rfl rfl ?_ | refine Vw.prvOf ?_ | refine Vw.cloOf ?_ | constructor)) (fun _ h => absurd h (by simp)) rfl rfl rfl (fun _ h => absurd h (by simp)) ?_
  refine al_op rfl rfl rfl (opP_bin rfl (ev_tmp rfl) (ev_const rfl) rfl) ?_
  refine al_nil ?_
  refine aw_cond rfl (fun h1 => ?_) (fun h1 => ?_)
  · exfalso
    simp [h0] at h1
  refine aw_skip ?_
  refine aw_seq ?_
  refine aw_region ?_
  refine al_op rfl rfl rfl (opP_move rfl (ev_tmp rfl)) ?_
  refine al_op rfl rfl rfl (opP_nilCheck rfl (ev_tmp rfl) rfl) ?_
  refine al_op rfl rfl rfl (opP_fieldAddr rfl (ev_tmp rfl) u75 rfl rfl s27 rfl) ?_
  refine al_op rfl rfl rfl (opP_load_prvn rfl u27 rfl s27 (ev_tmp rfl) rfl) ?_
  refine al_call (id) rfl rfl rfl (callOf_func rfl (.cons (ev_tmp rfl) .nil)) (c55 f hf) (by repeat' (first | refine Vw.stDOf ?_ | refine Vw.ptOf rfl rfl rfl ?_ | refine Vw.prvOf ?_ | refine Vw.cloOf ?_ | constructor)) (fun _ h => absurd h (by simp)) rfl rfl rfl (fun p hp => .inr ((hvk _).trans (by simp at hp; rcases hp with rfl | rfl | rfl <;> rfl))) ?_
  refine al_store_pt rfl rfl rfl s27 (ev_tmp rfl) (ev_tmp rfl) rfl rfl rfl rfl rfl rfl ?_
  refine al_nil ?_
  refine aw_ret ?_
  exact ret_id [.st [_, _, _, _]] (.celln' rfl u27 rfl s27 rfl rfl rfl .nil) rfl ⟨rfl, rfl, rfl, trivial⟩ rfl rfl
theorem e11 : Enters Tryz.prog 11 := enters_of Tryz.func11 (by kernel_rfl) (by kernel_rfl)
set_option maxRecDepth 100000 in
set_option maxHeartbeats 4000000 in
theorem c11n : Ok Tryz.prog 11 [.nil] [] (.st [.row 55001 1 0 0, .v (.int .i64 0), .row 55002 1 0 0, .row 55003 1 0 1]) [(55001, .row 1 []), (55002, .row 1 []), (55003, .row 1 (f0.blocks.map instsD))] := by
  refine ok_of e11 Tryz.func11 rfl (by kernel_rfl) ?_
  intro cx hP hro hN hvk
  obtain ⟨P, ro, w0, Bin, N, R0, tk0, bl0, vk⟩ := cx
  subst hP hro hN
  have hvkd := vkd_of hvk
  refine aw_seq ?_
  refine aw_region ?_
  refine al_opc (k := 102) rfl rfl rfl ((hvk _).trans rfl) (opC_alloc rfl z27) ?_
  refine al_nil ?_
  refine aw_seq ?_
  refine aw_region ?_
  refine al_op rfl rfl rfl (opP_move rfl (ev_tmp rfl)) ?_
  refine al_call id rfl rfl rfl (callOf_func rfl (.cons (ev_tmp rfl) (.cons (ev_const rfl) .nil))) (c34n false) (.cons .nil (.cons (.v _) .nil)) (fun _ h => absurd h (by simp)) rfl rfl rfl (fun p hp => .inr ((hvk _).trans (by simp at hp; rcases hp with rfl | rfl | rfl | rfl | rfl <;> rfl))) ?_
  refine al_op rfl rfl rfl (opP_assign rfl (ev_tmp rfl)) ?_
  refine al_nil ?_
  refine aw_seq ?_
  refine aw_region ?_
  refine al_op rfl rfl rfl (opP_move rfl (ev_tmp rfl)) ?_
  refine al_op rfl rfl rfl (opP_nilCheck rfl (ev_tmp rfl) rfl) ?_
  refine al_op rfl rfl rfl (opP_fieldAddr rfl (ev_tmp rfl) u75 rfl rfl s73 rfl) ?_
  refine al_op rfl rfl rfl (opP_load_pt rfl u73 rfl (ev_tmp rfl) rfl rfl) ?_
  refine al_call id rfl rfl rfl (callOf_clo rfl (ev_tmp rfl) (.cons (ev_const rfl) .nil)) (c83n 4) (by repeat' (first | refine Vw.ptOf rfl rfl rfl ?_ | refine Vw.prvOf ?_ | refine Vw.cloOf ?_ | constructor)) (fun _ h => absurd h (by simp)) rfl rfl rfl (fun _ h => absurd h (by simp)) ?_
  refine al_op rfl rfl rfl (opP_assign rfl (ev_tmp rfl)) ?_
  refine al_nil ?_
  refine aw_seq ?_
  refine aw_region ?_
  refine al_op rfl rfl rfl (opP_move rfl (ev_tmp rfl)) ?_
  refine al_call id rfl rfl rfl (callOf_func rfl (.cons (ev_tmp rfl) (.cons (ev_const rfl) .nil))) (c35n 4) (by repeat' (first | refine Vw.ptOf rfl rfl rfl ?_ | refine Vw.prvOf ?_ | refine Vw.cloOf ?_ | constructor)) (fun _ h => absurd h (by simp)) rfl rfl rfl (fun _ h => absurd h (by simp)) ?_
  refine al_nil ?_
  refine aw_seq ?_
  refine aw_seq ?_
  refine aw_region ?_
  refine al_op rfl rfl rfl (opP_move rfl (ev_tmp rfl)) ?_
  refine al_nil ?_
  refine aw_block ?_
  refine aw_seq ?_
  refine aw_region ?_
  refine al_op rfl rfl rfl (opP_bin rfl (ev_tmp rfl) (ev_const rfl) rfl) ?_
  refine al_op rfl rfl rfl (opP_assign rfl (ev_tmp rfl)) ?_
  refine al_nil ?_
  refine aw_cond rfl (fun h1 => ?_) (fun h1 => ?_)
  · exfalso
    simp at h1
  refine aw_seq ?_
  refine aw_region ?_
  refine al_op rfl rfl rfl (opP_bin rfl (ev_tmp rfl) (ev_const rfl) rfl) ?_
  refine al_op rfl rfl rfl (opP_assign rfl (ev_tmp rfl)) ?_
  refine al_nil ?_
  refine aw_cond rfl (fun h2 => ?_) (fun h2 => ?_)
  · exfalso
    simp at h2
  refine aw_seq ?_
  refine aw_region ?_
  refine al_op rfl rfl rfl (opP_move rfl (ev_tmp rfl)) ?_
  refine al_call id rfl rfl rfl (callOf_func rfl (.cons (ev_tmp rfl) (.cons (ev_const rfl) .nil))) (c35n 3) (by repeat' (first | refine Vw.ptOf rfl rfl rfl ?_ | refine Vw.prvOf ?_ | refine Vw.cloOf ?_ | constructor)) (fun _ h => absurd h (by simp)) rfl rfl rfl (fun _ h => absurd h (by simp)) ?_
  refine al_nil ?_
  refine aw_region ?_
  refine al_op rfl rfl rfl (opP_move rfl (ev_tmp rfl)) ?_
  refine al_call (fun k => bif Nat.beq k 1 then 34001 else bif Nat.beq k 2 then 76001 else bif Nat.beq k 3 then 59001 else k) rfl rfl rfl (callOf_func rfl (.cons (ev_tmp rfl) .nil)) c38n (.cons (.ptL (ρ := (fun k => bif Nat.beq k 1 then 34001 else bif Nat.beq k 2 then 76001 else bif Nat.beq k 3 then 59001 else k)) 1 0 rfl) .nil) ?_ rfl rfl rfl ?_ ?_
  · intro p hp
    simp at hp
    rcases hp with rfl | rfl | rfl
    · exact Lend.varOf rfl (.tok (.tok (.vw (.v _) (.tok (.vw (.rowL (ρ := (fun k => bif Nat.beq k 1 then 34001 else bif Nat.beq k 2 then 76001 else bif Nat.beq k 3 then 59001 else k)) 2 1 0 1 rfl) (.vw (.rowL (ρ := (fun k => bif Nat.beq k 1 then 34001 else bif Nat.beq k 2 then 76001 else bif Nat.beq k 3 then 59001 else k)) 3 1 0 0 rfl) (.tok (.tok (.nil _)))))))))
    · exact .row 1 _ rfl
    · exact .row 1 _ rfl
  · intro p hp
    simp at hp
    rcases hp with rfl | rfl | rfl
    · exact .inl rfl
    · exact .inr ((hvk _).trans rfl)
    · exact .inr ((hvk _).trans rfl)
  refine al_nil ?_
  refine aw_seq ?_
  refine aw_region ?_
  refine al_op rfl rfl rfl (opP_move rfl (ev_tmp rfl)) ?_
  refine al_call id rfl rfl rfl (callOf_func rfl (.cons (ev_tmp rfl) .nil)) (c39n f0 f0_fits f0_ok) (.cons (Vw.ptOf rfl rfl rfl (.cons (.any _) (.cons (.nild 1) (.cons (.v _) (.cons (.nild 1) (.cons (Vw.row 76001 1 0 1 _ _ rfl rfl (by decide) rfl) (.cons (.any _) (.cons (.any _) (.cons (.any _) .nil))))))))) .nil) (fun _ h => absurd h (by simp)) rfl rfl rfl (fun p hp => .inr ((hvk _).trans (by simp at hp; rcases hp with rfl | rfl | rfl <;> rfl))) ?_
  refine al_store_pt rfl rfl rfl s27 (ev_tmp rfl) (ev_tmp rfl) rfl rfl rfl rfl rfl rfl ?_
  refine al_nil ?_
  refine aw_ret ?_
  exact ret_id [.st [_, _, _, _]] (.celln' rfl u27 rfl s27 rfl rfl rfl .nil) rfl ⟨rfl, rfl, rfl, trivial⟩ rfl rfl
theorem e12 : Enters Tryz.prog 12 := enters_of Tryz.func12 (by kernel_rfl) (by kernel_rfl)
set_option maxRecDepth 100000 in
set_option maxHeartbeats 4000000 in
theorem c12n : Ok Tryz.prog 12 [.nil] [] (.st [.row 55001 1 0 0, .v (.int .i64 0), .row 55002 1 0 0, .row 55003 1 0 1]) [(55001, .row 1 []), (55002, .row 1 []), (55003, .row 1 (f0.blocks.map instsD))] := by
  refine ok_of e12 Tryz.func12 rfl (by kernel_rfl) ?_
  intro cx hP hro hN hvk
  obtain ⟨P, ro, w0, Bin, N, R0, tk0, bl0, vk⟩ := cx
  subst hP hro hN
  have hvkd := vkd_of hvk
  refine aw_seq ?_
  refine aw_region ?_
  refine al_opc (k := 102) rfl rfl rfl ((hvk _).trans rfl) (opC_alloc rfl z27) ?_
  refine al_nil ?_
  refine aw_seq ?_
  refine aw_region ?_
  refine al_op rfl rfl rfl (opP_move rfl (ev_tmp rfl)) ?_
  refine al_call id rfl rfl rfl (callOf_func rfl (.cons (ev_tmp rfl) (.cons (ev_const rfl) .nil))) (c34n true) (.cons .nil (.cons (.v _) .nil)) (fun _ h => absurd h (by simp)) rfl rfl rfl (fun p hp => .inr ((hvk _).trans (by simp at hp; rcases hp with rfl | rfl | rfl | rfl | rfl <;> rfl))) ?_
  refine al_op rfl rfl rfl (opP_assign rfl (ev_tmp rfl)) ?_
  refine al_nil ?_
  refine aw_seq ?_
  refine aw_region ?_
  refine al_op rfl rfl rfl (opP_move rfl (ev_tmp rfl)) ?_
  refine al_call id rfl rfl rfl (callOf_func rfl (.cons (ev_tmp rfl) (.cons (ev_const rfl) .nil))) (c35n 10) (by repeat' (first | refine Vw.ptOf rfl rfl rfl ?_ | refine Vw.prvOf ?_ | refine Vw.cloOf ?_ | constructor)) (fun _ h => absurd h (by simp)) rfl rfl rfl (fun _ h => absurd h (by simp)) ?_
  refine al_nil ?_
  refine aw_seq ?_
  refine aw_region ?_
  refine al_op rfl rfl rfl (opP_move rfl (ev_tmp rfl)) ?_
  refine al_call (fun k => bif Nat.beq k 1 then 34001 else bif Nat.beq k 2 then 76001 else bif Nat.beq k 3 then 59001 else k) rfl rfl rfl (callOf_func rfl (.cons (ev_tmp rfl) .nil)) c38n (.cons (.ptL (ρ := (fun k => bif Nat.beq k 1 then 34001 else bif Nat.beq k 2 then 76001 else bif Nat.beq k 3 then 59001 else k)) 1 0 rfl) .nil) ?_ rfl rfl rfl ?_ ?_
  · intro p hp
    simp at hp
    rcases hp with rfl | rfl | rfl
    · exact Lend.varOf rfl (.tok (.tok (.vw (.v _) (.tok (.vw (.rowL (ρ := (fun k => bif Nat.beq k 1 then 34001 else bif Nat.beq k 2 then 76001 else bif Nat.beq k 3 then 59001 else k)) 2 1 0 1 rfl) (.vw (.rowL (ρ := (fun k => bif Nat.beq k 1 then 34001 else bif Nat.beq k 2 then 76001 else bif Nat.beq k 3 then 59001 else k)) 3 1 0 0 rfl) (.tok (.tok (.nil _)))))))))
    · exact .row 1 _ rfl
    · exact .row 1 _ rfl
  · intro p hp
    simp at hp
    rcases hp with rfl | rfl | rfl
    · exact .inl rfl
    · exact .inr ((hvk _).trans rfl)
    · exact .inr ((hvk _).trans rfl)
  refine al_nil ?_
  refine aw_seq ?_
  refine aw_region ?_
  refine al_op rfl rfl rfl (opP_move rfl (ev_tmp rfl)) ?_
  refine al_call id rfl rfl rfl (callOf_func rfl (.cons (ev_tmp rfl) .nil)) (c39n f0 f0_fits f0_ok) (.cons (Vw.ptOf rfl rfl rfl (.cons (.any _) (.cons (.nild 1) (.cons (.v _) (.cons (.nild 1) (.cons (Vw.row 76001 1 0 1 _ _ rfl rfl (by decide) rfl) (.cons (.any _) (.cons (.any _) (.cons (.any _) .nil))))))))) .nil) (fun _ h => absurd h (by simp)) rfl rfl rfl (fun p hp => .inr ((hvk _).trans (by simp at hp; rcases hp with rfl | rfl | rfl <;> rfl))) ?_
  refine al_store_pt rfl rfl rfl s27 (ev_tmp rfl) (ev_tmp rfl) rfl rfl rfl rfl rfl rfl ?_
  refine al_nil ?_
  refine aw_ret ?_
  exact ret_id [.st [_, _, _, _]] (.celln' rfl u27 rfl s27 rfl rfl rfl .nil) rfl ⟨rfl, rfl, rfl, trivial⟩ rfl rfl
theorem e10 : Enters Tryz.prog 10 := enters_of Tryz.func10 (by kernel_rfl) (by kernel_rfl)
set_option maxRecDepth 100000 in
set_option maxHeartbeats 4000000 in
theorem c10 : Ok Tryz.prog 10 [] [] (.v (.bool true)) [] := by
  refine ok_of e10 Tryz.func10 rfl (by kernel_rfl) ?_
  intro cx hP hro hN hvk
  obtain ⟨P, ro, w0, Bin, N, R0, tk0, bl0, vk⟩ := cx
  subst hP hro hN
  have hvkd := vkd_of hvk
  refine aw_seq ?_
  refine aw_region ?_
  refine al_op rfl rfl rfl (opP_assign rfl (ev_const rfl)) ?_
  refine al_nil ?_
  refine aw_seq ?_
  refine aw_region ?_
  refine al_call id rfl rfl rfl (callOf_func rfl (.cons (ev_const rfl) .nil)) c11n (.cons .nil .nil) (fun _ h => absurd h (by simp)) rfl rfl rfl (fun p hp => .inr ((hvk _).trans (by simp at hp; rcases hp with rfl | rfl | rfl <;> rfl))) ?_
  refine al_call (fun k => k + 1000) rfl rfl rfl (callOf_func rfl (.cons (ev_const rfl) .nil)) c12n (.cons .nil .nil) (fun _ h => absurd h (by simp)) rfl rfl rfl (fun p hp => .inr ((hvk _).trans (by simp at hp; rcases hp with rfl | rfl | rfl <;> rfl))) ?_
  refine al_opc (k := 101) rfl rfl rfl ((hvk _).trans rfl) (opC_alloc rfl z27) ?_
  refine al_opc (k := 102) rfl rfl rfl ((hvk _).trans rfl) (opC_alloc rfl z27) ?_
  refine al_store_pt rfl rfl rfl s27 (ev_tmp rfl) (ev_tmp rfl) rfl rfl rfl rfl rfl rfl ?_
  refine al_store_pt rfl rfl rfl s27 (ev_tmp rfl) (ev_tmp rfl) rfl rfl rfl rfl rfl rfl ?_
  refine al_nil ?_
  refine aw_seq ?_
  refine aw_region ?_
  refine al_op rfl rfl rfl (opP_load_ptn rfl u27 rfl s27 (ev_tmp rfl) rfl rfl) ?_
  refine al_call (id) rfl rfl rfl (callOf_func rfl (.cons (ev_tmp rfl) .nil)) (c14 f0 f0_fits) (.cons (Vw.stDOf (.cons (Vw.row 55001 1 0 0 [] [] rfl rfl (by decide) rfl) (.cons (.vdat _) (.cons (Vw.row 55002 1 0 0 [] [] rfl rfl (by decide) rfl) (.cons (Vw.row 55003 1 0 1 (f0.blocks.map instsD) (f0.blocks.map instsD) rfl rfl (by decide) rfl) .nil))))) .nil) (fun _ h => absurd h (by simp)) rfl rfl rfl (fun _ h => absurd h (by simp)) ?_
  refine al_op rfl rfl rfl (opP_bin rfl (ev_tmp rfl) (ev_const rfl) rfl) ?_
  refine al_op rfl rfl rfl (opP_move rfl (ev_tmp rfl)) ?_
  refine al_opg rfl rfl rfl rfl rfl rfl (opP_fieldAddr rfl (ev_tmp rfl) u27 rfl rfl s22 rfl) ?_
  refine al_opg rfl rfl rfl rfl rfl rfl (opP_load_pt rfl u22 rfl (ev_when rfl id) rfl rfl) ?_
  refine al_opg rfl rfl rfl rfl rfl rfl (opP_len rfl u22 (ev_when rfl id) (by first | exact lenA_ints | exact lenA_map | rfl)) ?_
  refine al_opg rfl rfl rfl rfl rfl rfl (opP_bin rfl (ev_when rfl id) (ev_const rfl) rfl) ?_
  refine al_op rfl rfl rfl (opP_and rfl (ev_tmp rfl) (ev_when rfl id)) ?_
  refine al_op rfl rfl rfl (opP_move rfl (ev_tmp rfl)) ?_
  refine al_opg rfl rfl rfl rfl rfl rfl (opP_fieldAddr rfl (ev_tmp rfl) u27 rfl rfl s3 rfl) ?_
  refine al_opg rfl rfl rfl rfl rfl rfl (opP_load_pt rfl u3 rfl (ev_when rfl id) rfl rfl) ?_
  refine al_opg rfl rfl rfl rfl rfl rfl (opP_bin rfl (ev_when rfl id) (ev_const rfl) rfl) ?_
  refine al_op rfl rfl rfl (opP_and rfl (ev_tmp rfl) (ev_when rfl id)) ?_
  refine al_op rfl rfl rfl (opP_move rfl (ev_tmp rfl)) ?_
  refine al_opg rfl rfl rfl rfl rfl rfl (opP_load_ptn rfl u27 rfl s27 (ev_tmp rfl) rfl rfl) ?_
  refine al_stepD rfl rfl (stepD_callg rfl rfl rfl rfl (callOf_func rfl (.cons (ev_when rfl id) .nil)) (fun gd => c14 f0 f0_fits) (fun gd => (.cons (Vw.stDOf (.cons (Vw.row 56001 1 0 0 [] [] rfl rfl (by decide) rfl) (.cons (.vdat _) (.cons (Vw.row 56002 1 0 0 [] [] rfl rfl (by decide) rfl) (.cons (Vw.row 56003 1 0 1 (f0.blocks.map instsD) (f0.blocks.map instsD) rfl rfl (by decide) rfl) .nil))))) .nil)) rfl (fun _ => rfl)) ?_
  refine al_opg rfl rfl rfl rfl rfl rfl (opP_bin rfl (ev_when rfl id) (ev_const rfl) rfl) ?_
  refine al_op rfl rfl rfl (opP_and rfl (ev_tmp rfl) (ev_when rfl id)) ?_
  refine al_op rfl rfl rfl (opP_move rfl (ev_tmp rfl)) ?_
  refine al_opg rfl rfl rfl rfl rfl rfl (opP_fieldAddr rfl (ev_tmp rfl) u27 rfl rfl s22 rfl) ?_
  refine al_opg rfl rfl rfl rfl rfl rfl (opP_load_pt rfl u22 rfl (ev_when rfl id) rfl rfl) ?_
  refine al_opg rfl rfl rfl rfl rfl rfl (opP_len rfl u22 (ev_when rfl id) (by first | exact lenA_ints | exact lenA_map | rfl)) ?_
  refine al_opg rfl rfl rfl rfl rfl rfl (opP_bin rfl (ev_when rfl id) (ev_const rfl) rfl) ?_
  refine al_op rfl rfl rfl (opP_and rfl (ev_tmp rfl) (ev_when rfl id)) ?_
  refine al_op rfl rfl rfl (opP_move rfl (ev_tmp rfl)) ?_
  refine al_opg rfl rfl rfl rfl rfl rfl (opP_fieldAddr rfl (ev_tmp rfl) u27 rfl rfl s3 rfl) ?_
  refine al_opg rfl rfl rfl rfl rfl rfl (opP_load_pt rfl u3 rfl (ev_when rfl id) rfl rfl) ?_
  refine al_opg rfl rfl rfl rfl rfl rfl (opP_bin rfl (ev_when rfl id) (ev_const rfl) rfl) ?_
  refine al_op rfl rfl rfl (opP_and rfl (ev_tmp rfl) (ev_when rfl id)) ?_
  refine al_op rfl rfl rfl (opP_move rfl (ev_tmp rfl)) ?_
  refine al_opg rfl rfl rfl rfl rfl rfl (opP_fieldAddr rfl (ev_tmp rfl) u27 rfl rfl s25 rfl) ?_
  refine al_opg rfl rfl rfl rfl rfl rfl (opP_load_pt rfl u25 rfl (ev_when rfl id) rfl rfl) ?_
  refine al_opg rfl rfl rfl rfl rfl rfl (opP_len rfl u25 (ev_when rfl id) (by first | exact lenA_ints | exact lenA_map | rfl)) ?_
  refine al_opg rfl rfl rfl rfl rfl rfl (opP_bin rfl (ev_when rfl id) (ev_const rfl) rfl) ?_
  refine al_op rfl rfl rfl (opP_and rfl (ev_tmp rfl) (ev_when rfl id)) ?_
  refine al_op rfl rfl rfl (opP_assign rfl (ev_tmp rfl)) ?_
  refine al_nil ?_
  refine aw_ret ?_
  exact ret_id ([.v (.bool _)]) (.tmp rfl .nil) (congrArg (fun b => A.v (.bool b)) (by simp [f0_ok])) (by repeat (first | exact trivial | refine ⟨rfl, ?_⟩)) rfl rfl
end Go.AL
namespace Go.AL
def wordV (w s : Int) : Int := if isW w then (s / 128) % 2 ^ w.toNat else 0
def ofV (w n : Int) : Int := if isW w then (n % 4294967296) % 2 ^ w.toNat else 0
def ofE (w : Int) : Int := if isW w then 0 else 1
def nextS (s : Int) : Int := if s > 0 then (s * 1664525 + 1013904223) % 4294967296 else s
def seedAt (s : Int) : Nat → Int
  | 0 => s
  | n + 1 => nextS (seedAt s n)
def seed0 : Nat → Int
  | 0 => 0
  | k + 1 => ((k : Int) * 2654435761 + 12345) % 4294967296
structure In where
  args : List Int
  mem : List (List Int)
def words (l : List Int) : List D := l.map (.int .u32)
def inD (x : In) : D := .agg [.sl 1 (words x.args), .sl 1 (x.mem.map rowD)]
def U32 (n : Int) : Prop := 0 ≤ n ∧ n < 4294967296
structure In.Fits (x : In) : Prop where
  args : x.args.length < 1000000
  mem : x.mem.length < 1000000
  rows : ∀ l ∈ x.mem, l.length < 1000000
  word : ∀ a ∈ x.args, U32 a
  byte : ∀ l ∈ x.mem, ∀ a ∈ l, I64 a
theorem next_u32 {s : Int} (h : U32 s) : U32 (nextS s) := by
  simp only [U32, nextS] at *
  split <;> omega
theorem seedAt_u32 {s : Int} (h : U32 s) : ∀ n, U32 (seedAt s n)
  | 0 => h
  | n + 1 => next_u32 (seedAt_u32 h n)
theorem seed0_u32 : ∀ k, U32 (seed0 k)
  | 0 => by simp [seed0, U32]
  | k + 1 => by simp only [seed0, U32]; omega
theorem next_zero : nextS 0 = 0 := rfl
theorem seedAt_zero : ∀ n, seedAt 0 n = 0
  | 0 => rfl
  | n + 1 => by rw [seedAt, seedAt_zero n]; rfl
def offR (f : Fn) (b : Nat) : Nat := f.params.length + ((f.slots.take b).map Int.toNat).sum
def argsR (f : Fn) (s : Int) (n : Nat) : List Int := (List.range n).map fun j => wordV (f.params.getD j 0) (seedAt s j)
def rowR (s : Int) (o n : Nat) : List Int := (List.range n).map fun j => wordV 8 (seedAt s (o + j))
def memsR (f : Fn) (s : Int) (b : Nat) : List (List Int) := (List.range b).map fun t => rowR s (offR f t) (f.slots.getD t 0).toNat
def inputR (f : Fn) (k : Nat) : In := ⟨argsR f (seed0 k) f.params.length, memsR f (seed0 k) f.slots.length⟩
def inputsR (f : Fn) (n : Nat) : List In := (List.range n).map (inputR f)
def memBad (z : Int) (l : List Int) : Bool := !(decide ((l.length : Int) = z)) || l.any fun b => decide (b < -1) || decide (b > 255)
def validInR (f : Fn) (x : In) : Int :=
  if validateR f ≠ 0 then validateR f
  else if !(decide (x.args.length = f.params.length)) || !(decide (x.mem.length = f.slots.length)) then 1
  else if (List.range x.args.length).any fun i => !(isWordR (f.params.getD i 0) (x.args.getD i 0)) then 1
  else if (List.range x.mem.length).any fun s => memBad (f.slots.getD s 0) (x.mem.getD s []) then 1
  else 0
def longI (x : Inst) : Bool := decide (x.args.length > 40) || decide (x.to.length > 40)
def longB (l : List Inst) : Bool := decide (l.length > 100) || l.any longI
def longR (f : Fn) : Bool := decide (f.params.length > 20) || decide (f.slots.length > 20) || decide (f.blocks.length > 40) || f.blocks.any longB
structure Inst.Ranges (x : Inst) : Prop where
  imm : 0 ≤ x.imm ∧ x.imm < 4294967296
  w : I64 x.w
  op : I64 x.op
  fl : I64 x.fl
  args64 : ∀ a ∈ x.args, I64 a
  to64 : ∀ a ∈ x.to, I64 a
structure Fn.Ranges (f : Fn) : Prop where
  inst : ∀ l ∈ f.blocks, ∀ x ∈ l, x.Ranges
  ret : I64 f.ret
  params64 : ∀ a ∈ f.params, I64 a
  slots64 : ∀ a ∈ f.slots, I64 a
theorem fits_of {f : Fn} (hr : f.Ranges) (h : longR f = false) : f.Fits := by
  simp only [longR, Bool.or_eq_false_iff, decide_eq_false_iff_not, List.any_eq_false, longB, longI, Bool.or_eq_true, decide_eq_true_eq, List.any_eq_true, not_or, not_exists, not_and] at h
  obtain ⟨⟨⟨h1, h2⟩, h3⟩, h4⟩ := h
  refine ⟨by omega, by omega, by omega, fun l hl => by have := (h4 l hl).1; omega, fun l hl x hx => ?_, hr.ret, hr.params64, hr.slots64⟩
  have h5 := (h4 l hl).2 x hx
  have h6 := hr.inst l hl x hx
  exact ⟨by omega, by omega, h6.imm, h6.w, h6.op, h6.fl, h6.args64, h6.to64⟩
theorem words_get {l : List Int} {i : Nat} (h : i < l.length) : (words l)[i]? = some (.int .u32 l[i]) := by simp [words, h]
theorem words_len (l : List Int) : (words l).length = l.length := by simp [words]
theorem mem_get {l : List (List Int)} {i : Nat} (h : i < l.length) : (l.map rowD)[i]? = some (rowD l[i]) := by simp [h]
theorem getD_lt {α : Type} {l : List α} {i : Nat} (h : i < l.length) (d : α) : l.getD i d = l[i] := by simp [List.getD_eq_getElem?_getD, h]
theorem mask_and {x n : Int} (hx : U32 x) (h : isW n = true) : IntKind.u32.wrap ((BitVec.ofInt IntKind.u32.bits x &&& BitVec.ofInt IntKind.u32.bits (2 ^ n.toNat - 1)).toNat : Nat) = x % 2 ^ n.toNat := by
  simp only [isW, Bool.and_eq_true, decide_eq_true_eq] at h
  obtain ⟨m, rfl⟩ : ∃ m : Nat, x = m := ⟨x.toNat, by simp only [U32] at hx; omega⟩
  obtain ⟨k, rfl⟩ : ∃ k : Nat, n = k := ⟨n.toNat, by omega⟩
  have hm : m < 4294967296 := by simp only [U32] at hx; omega
  have hk : k ≤ 32 := by omega
  have hp : (2 ^ k : Nat) ≤ 2 ^ 32 := Nat.pow_le_pow_right (by decide) hk
  have hp1 : 1 ≤ (2 ^ k : Nat) := Nat.one_le_two_pow
  have e1 : ((2 : Int) ^ (k : Int).toNat - 1) = ((2 ^ k - 1 : Nat) : Int) := by
    rw [Int.toNat_natCast]; push_cast [hp1]; rfl
  rw [e1]
  have e2 : (BitVec.ofInt IntKind.u32.bits (m : Int) &&& BitVec.ofInt IntKind.u32.bits ((2 ^ k - 1 : Nat) : Int)).toNat = m % 2 ^ k := by
    have hb : IntKind.u32.bits = 32 := rfl
    rw [hb, BitVec.toNat_and, BitVec.ofInt_natCast, BitVec.ofInt_natCast, BitVec.toNat_ofNat, BitVec.toNat_ofNat, Nat.mod_eq_of_lt hm, Nat.mod_eq_of_lt (by omega : 2 ^ k - 1 < 2 ^ 32), Nat.and_two_pow_sub_one_eq_mod]
  rw [e2, IntKind.wrap_u32, Int.toNat_natCast]
  have : m % 2 ^ k < 2 ^ k := Nat.mod_lt _ (by omega)
  have e3 : ((m : Int) % 2 ^ k) = ((m % 2 ^ k : Nat) : Int) := by push_cast; rfl
  rw [e3]; omega
theorem of_eq {w n : Int} (h : isW w = true) : IntKind.u32.wrap ((BitVec.ofInt IntKind.u32.bits (IntKind.u32.wrap n) &&& BitVec.ofInt IntKind.u32.bits (2 ^ w.toNat - 1)).toNat : Nat) = ofV w n := by
  have e : IntKind.u32.wrap n = n % 4294967296 := IntKind.wrap_u32 n
  rw [mask_and (by rw [e]; simp only [U32]; omega) h, e, ofV, if_pos h]
theorem size_eq {n : Int} (h : isW n = true) : IntKind.i64.wrap (1 * 2 ^ min (IntKind.u64.wrap n).toNat IntKind.i64.bits) = 2 ^ n.toNat := by
  simp only [isW, Bool.and_eq_true, decide_eq_true_eq] at h
  have e : (IntKind.u64.wrap n).toNat = n.toNat := by rw [IntKind.wrap_u64]; congr 1; omega
  have hb : IntKind.i64.bits = 64 := rfl
  rw [e, hb, Nat.min_eq_left (by omega), Int.one_mul, wrapI]
  obtain ⟨k, rfl⟩ : ∃ k : Nat, n = k := ⟨n.toNat, by omega⟩
  rw [Int.toNat_natCast]
  have hp : (2 ^ k : Nat) ≤ 2 ^ 32 := Nat.pow_le_pow_right (by decide) (by omega)
  have : ((2 : Int) ^ k) = ((2 ^ k : Nat) : Int) := by push_cast; rfl
  rw [this]
  generalize (2 ^ k : Nat) = p at *
  simp only [I64]; omega
theorem ofV_word {w s : Int} (hs : U32 s) : ofV w (s / 128) = wordV w s := by
  unfold ofV wordV
  simp only [U32] at hs
  rw [show s / 128 % 4294967296 = s / 128 by omega]
theorem wordV_u32 (w : Int) {s : Int} (hs : U32 s) : U32 (wordV w s) := by
  unfold wordV
  split
  · rename_i h
    simp only [isW, Bool.and_eq_true, decide_eq_true_eq] at h
    simp only [U32] at *
    obtain ⟨k, rfl⟩ : ∃ k : Nat, w = k := ⟨w.toNat, by omega⟩
    have hp : (2 ^ k : Nat) ≤ 2 ^ 32 := Nat.pow_le_pow_right (by decide) (by omega)
    have hp1 : 1 ≤ (2 ^ k : Nat) := Nat.one_le_two_pow
    have e : ((2 : Int) ^ (k : Int).toNat) = ((2 ^ k : Nat) : Int) := by rw [Int.toNat_natCast]; push_cast; rfl
    rw [e]
    generalize (2 ^ k : Nat) = p at *
    have h1 := Int.emod_nonneg (s / 128) (b := (p : Int)) (by omega)
    have h2 := Int.emod_lt_of_pos (s / 128) (b := (p : Int)) (by omega)
    omega
  · simp [U32]
theorem wordV_lt {w s : Int} (h : isW w = true) : 0 ≤ wordV w s ∧ wordV w s < 2 ^ w.toNat := by
  unfold wordV
  rw [if_pos h]
  have hp : (0 : Int) < 2 ^ w.toNat := Int.pow_pos (by decide)
  exact ⟨Int.emod_nonneg _ (by omega), Int.emod_lt_of_pos _ hp⟩
theorem wordV_zero (w : Int) : wordV w 0 = 0 := by
  unfold wordV; split <;> simp
theorem seed_word (w : Int) {s : Int} (hs : U32 s) : ofV w (IntKind.i64.wrap (s.fdiv (2 ^ min (Int.toNat 7) IntKind.u32.bits))) = wordV w s := by
  have e : s.fdiv (2 ^ min (Int.toNat 7) IntKind.u32.bits) = s / 128 := by
    show s.fdiv 128 = s / 128
    rw [Int.fdiv_eq_ediv_of_nonneg _ (by decide)]
  rw [e, ← ofV_word hs, wrapI]
  simp only [U32, I64] at *; omega
theorem seed_next {s : Int} (h : decide (s > 0) = true) : IntKind.u32.wrap (IntKind.u32.wrap (s * 1664525) + 1013904223) = nextS s := by
  have h : s > 0 := by simpa using h
  rw [IntKind.wrap_u32, IntKind.wrap_u32, nextS, if_pos h]; omega
theorem seed_keep {s : Int} (h : decide (s > 0) = false) : s = nextS s := by
  have h : ¬ s > 0 := by simpa using h
  rw [nextS, if_neg h]
end Go.AL
namespace Go.AL
open Go.Proofs
theorem e103 : Enters Tryz.prog 103 := enters_of Tryz.func103 (by kernel_rfl) (by kernel_rfl)
set_option maxRecDepth 100000 in
set_option maxHeartbeats 4000000 in
theorem c103 (n : Int) : Ok Tryz.prog 103 [.v (.int .i64 n)] [] (.v (.bool (isW n))) [] := by
  refine ok_of e103 Tryz.func103 rfl (by kernel_rfl) ?_
  intro cx hP hro hN hvk
  obtain ⟨P, ro, w0, Bin, N, R0, tk0, bl0, vk⟩ := cx
  subst hP hro hN
  have hvkd := vkd_of hvk
  refine aw_seq ?_
  refine aw_region ?_
  refine al_op rfl rfl rfl (opP_assign rfl (ev_const rfl)) ?_
  refine al_nil ?_
  refine aw_seq ?_
  refine aw_region ?_
  refine al_op rfl rfl rfl (opP_move rfl (ev_tmp rfl)) ?_
  refine al_op rfl rfl rfl (opP_bin rfl (ev_tmp rfl) (ev_const rfl) rfl) ?_
  refine al_op rfl rfl rfl (opP_move rfl (ev_tmp rfl)) ?_
  refine al_opg rfl rfl rfl rfl rfl rfl (opP_move rfl (ev_tmp rfl)) ?_
  refine al_opg rfl rfl rfl rfl rfl rfl (opP_bin rfl (ev_when rfl id) (ev_const rfl) rfl) ?_
  refine al_op rfl rfl rfl (opP_and rfl (ev_tmp rfl) (ev_when rfl id)) ?_
  refine al_op rfl rfl rfl (opP_assign rfl (ev_tmp rfl)) ?_
  refine al_nil ?_
  refine aw_ret ?_
  exact ret_id _ (.tmp rfl .nil) rfl trivial rfl rfl
theorem e104 : Enters Tryz.prog 104 := enters_of Tryz.func104 (by kernel_rfl) (by kernel_rfl)
set_option maxRecDepth 100000 in
set_option maxHeartbeats 4000000 in
theorem c104 (n : Int) (hn : isW n = true) : Ok Tryz.prog 104 [.v (.int .i64 n)] [] (.v (.int .i64 (2 ^ n.toNat))) [] := by
  refine ok_of e104 Tryz.func104 rfl (by kernel_rfl) ?_
  intro cx hP hro hN hvk
  obtain ⟨P, ro, w0, Bin, N, R0, tk0, bl0, vk⟩ := cx
  subst hP hro hN
  have hvkd := vkd_of hvk
  refine aw_seq ?_
  refine aw_region ?_
  refine al_op rfl rfl rfl (opP_assign rfl (ev_const rfl)) ?_
  refine al_nil ?_
  refine aw_seq ?_
  refine aw_region ?_
  refine al_op rfl rfl rfl (opP_move rfl (ev_tmp rfl)) ?_
  refine al_op rfl rfl rfl (opP_convert rfl (by rw [u3]; rfl) u88 (ev_tmp rfl)) ?_
  refine al_op rfl rfl rfl (opP_shl rfl (ev_const rfl) (ev_tmp rfl) (fun _ => by simp [isW] at hn; rw [IntKind.wrap_u64]; omega)) ?_
  refine al_op rfl rfl rfl (opP_assign rfl (ev_tmp rfl)) ?_
  refine al_nil ?_
  refine aw_ret ?_
  exact ret_id ([.v (.int .i64 _)]) (.tmp rfl .nil) (congrArg (fun b => A.v (.int .i64 b)) (size_eq hn)) (by repeat (first | exact trivial | refine ⟨rfl, ?_⟩)) rfl rfl
theorem e52 : Enters Tryz.prog 52 := enters_of Tryz.func52 (by kernel_rfl) (by kernel_rfl)
set_option maxRecDepth 100000 in
set_option maxHeartbeats 4000000 in
theorem c52 (n x : Int) (hx : U32 x) : Ok Tryz.prog 52 [.v (.int .i64 n), .v (.int .u32 x)] [] (.v (.bool (isWordR n x))) [] := by
  refine ok_of e52 Tryz.func52 rfl (by kernel_rfl) ?_
  intro cx hP hro hN hvk
  obtain ⟨P, ro, w0, Bin, N, R0, tk0, bl0, vk⟩ := cx
  subst hP hro hN
  have hvkd := vkd_of hvk
  refine aw_seq ?_
  refine aw_region ?_
  refine al_op rfl rfl rfl (opP_assign rfl (ev_const rfl)) ?_
  refine al_nil ?_
  refine aw_seq ?_
  refine aw_region ?_
  refine al_op rfl rfl rfl (opP_move rfl (ev_tmp rfl)) ?_
  refine al_call (id) rfl rfl rfl (callOf_func rfl (.cons (ev_tmp rfl) .nil)) (c103 n) (by repeat' (first | refine Vw.stDOf ?_ | refine Vw.ptOf rfl rfl rfl ?_ | refine Vw.prvOf ?_ | refine Vw.cloOf ?_ | constructor)) (fun _ h => absurd h (by simp)) rfl rfl rfl (fun _ h => absurd h (by simp)) ?_
  refine al_op rfl rfl rfl (opP_move rfl (ev_tmp rfl)) ?_
  refine al_opg rfl rfl rfl rfl rfl rfl (opP_move rfl (ev_tmp rfl)) ?_
  refine al_opg rfl rfl rfl rfl rfl rfl (opP_convert rfl (by rw [u36]; rfl) u3 (ev_when rfl id)) ?_
  refine al_opg rfl rfl rfl rfl rfl rfl (opP_move rfl (ev_tmp rfl)) ?_
  refine al_stepD rfl rfl (stepD_callg rfl rfl rfl rfl (callOf_func rfl (.cons (ev_when rfl id) .nil)) (fun gd => c104 n gd) (fun gd => (by repeat' (first | refine Vw.stDOf ?_ | refine Vw.ptOf rfl rfl rfl ?_ | refine Vw.prvOf ?_ | refine Vw.cloOf ?_ | constructor))) rfl (fun _ => rfl)) ?_
  refine al_opg rfl rfl rfl rfl rfl rfl (opP_bin rfl (ev_when rfl id) (ev_when rfl id) rfl) ?_
  refine al_op rfl rfl rfl (opP_and rfl (ev_tmp rfl) (ev_when rfl id)) ?_
  refine al_op rfl rfl rfl (opP_assign rfl (ev_tmp rfl)) ?_
  refine al_nil ?_
  refine aw_ret ?_
  exact ret_id ([.v (.bool _)]) (.tmp rfl .nil) (congrArg (fun b => A.v (.bool b)) (by rw [wrapU hx]; rfl)) (by repeat (first | exact trivial | refine ⟨rfl, ?_⟩)) rfl rfl
theorem e41 : Enters Tryz.prog 41 := enters_of Tryz.func41 (by kernel_rfl) (by kernel_rfl)
set_option maxRecDepth 100000 in
set_option maxHeartbeats 4000000 in
theorem c41 (w n : Int) : Ok Tryz.prog 41 [.v (.int .i64 w), .v (.int .i64 n)] [] (.tup [.v (.int .u32 (ofV w n)), .v (.int .i64 (ofE w))]) [] := by
  refine ok_of e41 Tryz.func41 rfl (by kernel_rfl) ?_
  intro cx hP hro hN hvk
  obtain ⟨P, ro, w0, Bin, N, R0, tk0, bl0, vk⟩ := cx
  subst hP hro hN
  have hvkd := vkd_of hvk
  refine aw_seq ?_
  refine aw_region ?_
  refine al_op rfl rfl rfl (opP_assign rfl (ev_const rfl)) ?_
  refine al_op rfl rfl rfl (opP_assign rfl (ev_const rfl)) ?_
  refine al_nil ?_
  refine aw_seq ?_
  refine aw_seq ?_
  refine aw_region ?_
  refine al_op rfl rfl rfl (opP_move rfl (ev_tmp rfl)) ?_
  refine al_call (id) rfl rfl rfl (callOf_func rfl (.cons (ev_tmp rfl) .nil)) (c84 w) (by repeat' (first | refine Vw.stDOf ?_ | refine Vw.ptOf rfl rfl rfl ?_ | refine Vw.prvOf ?_ | refine Vw.cloOf ?_ | constructor)) (fun _ h => absurd h (by simp)) rfl rfl rfl (fun _ h => absurd h (by simp)) ?_
  refine al_op rfl rfl rfl (opP_not rfl (ev_tmp rfl)) ?_
  refine al_nil ?_
  refine aw_cond rfl (fun h1 => ?_) (fun h1 => ?_)
  · have hw : isW w = false := by simpa using h1
    refine aw_seq ?_
    refine aw_region ?_
    refine al_op rfl rfl rfl (opP_assign rfl (ev_const rfl)) ?_
    refine al_op rfl rfl rfl (opP_assign rfl (ev_const rfl)) ?_
    refine al_nil ?_
    refine aw_ret ?_
    exact ret_id [.v (.int .u32 0), .v (.int .i64 1)] (.tmp rfl (.tmp rfl .nil)) (by simp [oneOf, ofV, ofE, hw]) trivial rfl rfl
  have hw : isW w = true := by simpa using h1
  refine aw_skip ?_
  refine aw_seq ?_
  refine aw_region ?_
  refine al_op rfl rfl rfl (opP_move rfl (ev_tmp rfl)) ?_
  refine al_op rfl rfl rfl (opP_convert rfl (by rw [u3]; rfl) u36 (ev_tmp rfl)) ?_
  refine al_op rfl rfl rfl (opP_move rfl (ev_tmp rfl)) ?_
  refine al_call (id) rfl rfl rfl (callOf_func rfl (.cons (ev_tmp rfl) .nil)) (c85 w hw) (by repeat' (first | refine Vw.stDOf ?_ | refine Vw.ptOf rfl rfl rfl ?_ | refine Vw.prvOf ?_ | refine Vw.cloOf ?_ | constructor)) (fun _ h => absurd h (by simp)) rfl rfl rfl (fun _ h => absurd h (by simp)) ?_
  refine al_op rfl rfl rfl (opP_bin rfl (ev_tmp rfl) (ev_tmp rfl) rfl) ?_
  refine al_op rfl rfl rfl (opP_assign rfl (ev_tmp rfl)) ?_
  refine al_op rfl rfl rfl (opP_assign rfl (ev_const rfl)) ?_
  refine al_nil ?_
  refine aw_ret ?_
  exact ret_id [.v (.int .u32 _), .v (.int .i64 0)] (.tmp rfl (.tmp rfl .nil)) (by rw [of_eq hw, ofE, if_pos hw]; rfl) trivial rfl rfl
theorem e51 : Enters Tryz.prog 51 := enters_of Tryz.func51 (by kernel_rfl) (by kernel_rfl)
set_option maxRecDepth 100000 in
set_option maxHeartbeats 4000000 in
theorem c51 (w s : Int) (hs : U32 s) : Ok Tryz.prog 51 [.v (.int .i64 w), .pt 1 0] [(1, .var [.v (.int .u32 s)])] (.v (.int .u32 (wordV w s))) [(1, .var [.v (.int .u32 (nextS s))])] := by
  refine ok_of e51 Tryz.func51 rfl (by kernel_rfl) ?_
  intro cx hP hro hN hvk
  obtain ⟨P, ro, w0, Bin, N, R0, tk0, bl0, vk⟩ := cx
  subst hP hro hN
  have hvkd := vkd_of hvk
  refine aw_seq ?_
  refine aw_region ?_
  refine al_op rfl rfl rfl (opP_assign rfl (ev_const rfl)) ?_
  refine al_nil ?_
  refine aw_seq ?_
  refine aw_region ?_
  refine al_op rfl rfl rfl (opP_move rfl (ev_tmp rfl)) ?_
  refine al_op rfl rfl rfl (opP_load_pt rfl u36 rfl (ev_tmp rfl) rfl rfl) ?_
  refine al_op rfl rfl rfl (opP_shr rfl (ev_tmp rfl) (ev_const rfl) (fun _ => by omega)) ?_
  refine al_op rfl rfl rfl (opP_convert rfl (by rw [u36]; rfl) u3 (ev_tmp rfl)) ?_
  refine al_call (id) rfl rfl rfl (callOf_func rfl (.cons (ev_tmp rfl) (.cons (ev_tmp rfl) .nil))) (c41 w _) (by repeat' (first | refine Vw.stDOf ?_ | refine Vw.ptOf rfl rfl rfl ?_ | refine Vw.prvOf ?_ | refine Vw.cloOf ?_ | constructor)) (fun _ h => absurd h (by simp)) rfl rfl rfl (fun _ h => absurd h (by simp)) ?_
  refine al_op rfl rfl rfl (opP_move rfl (ev_tmp rfl)) ?_
  refine al_op rfl rfl rfl (opP_extract rfl (ev_tmp rfl) rfl) ?_
  refine al_op rfl rfl rfl (opP_extract rfl (ev_tmp rfl) rfl) ?_
  refine al_op rfl rfl rfl (opP_assign rfl (ev_tmp rfl)) ?_
  refine al_op rfl rfl rfl (opP_assign rfl (ev_tmp rfl)) ?_
  refine al_nil ?_
  refine aw_seq ?_
  refine aw_seq ?_
  refine aw_region ?_
  refine al_op rfl rfl rfl (opP_load_pt rfl u36 rfl (ev_tmp rfl) rfl rfl) ?_
  refine al_op rfl rfl rfl (opP_bin rfl (ev_tmp rfl) (ev_const rfl) rfl) ?_
  refine al_nil ?_
  refine aw_condS rfl (fun h1 => ?_) (fun h1 => ?_)
  · refine aw_skip ?_
    refine aw_seq ?_
    refine aw_region ?_
    refine al_op rfl rfl rfl (opP_move rfl (ev_tmp rfl)) ?_
    refine al_op rfl rfl rfl (opP_assign rfl (ev_tmp rfl)) ?_
    refine al_nil ?_
    refine aw_ret ?_
    refine ret_id [.v (.int .u32 _)] (.tmp rfl .nil) (congrArg (fun b => A.v (.int .u32 b)) (seed_word w hs)) ⟨?_, trivial⟩ rfl rfl
    show some (O.var [.v (.int .u32 s)]) = _
    rw [← seed_keep h1]
  refine aw_region ?_
  refine al_op rfl rfl rfl (opP_load_pt rfl u36 rfl (ev_tmp rfl) rfl rfl) ?_
  refine al_op rfl rfl rfl (opP_bin rfl (ev_tmp rfl) (ev_const rfl) rfl) ?_
  refine al_op rfl rfl rfl (opP_bin rfl (ev_tmp rfl) (ev_const rfl) rfl) ?_
  refine al_store_pt rfl rfl rfl s36 (ev_tmp rfl) (ev_tmp rfl) rfl rfl rfl rfl rfl rfl ?_
  refine al_nil ?_
  refine aw_seq ?_
  refine aw_region ?_
  refine al_op rfl rfl rfl (opP_move rfl (ev_tmp rfl)) ?_
  refine al_op rfl rfl rfl (opP_assign rfl (ev_tmp rfl)) ?_
  refine al_nil ?_
  refine aw_ret ?_
  refine ret_id [.v (.int .u32 _)] (.tmp rfl .nil) (congrArg (fun b => A.v (.int .u32 b)) (seed_word w hs)) ⟨?_, trivial⟩ rfl rfl
  show some (O.var [.v (.int .u32 _)]) = _
  rw [seed_next h1]
theorem e18 : Enters Tryz.prog 18 := enters_of Tryz.func18 (by kernel_rfl) (by kernel_rfl)
set_option maxRecDepth 100000 in
set_option maxHeartbeats 4000000 in
theorem c18 (f : Fn) : Ok Tryz.prog 18 [.dat none (fnD f)] [] (.v (.bool (longR f))) [] := by
  refine ok_of e18 Tryz.func18 rfl (by kernel_rfl) ?_
  intro cx hP hro hN hvk
  obtain ⟨P, ro, w0, Bin, N, R0, tk0, bl0, vk⟩ := cx
  subst hP hro hN
  have hvkd := vkd_of hvk
  refine aw_seq ?_
  refine aw_region ?_
  refine al_opc (k := 101) rfl rfl rfl ((hvk _).trans rfl) (opC_box rfl (ev_tmp rfl) rfl) ?_
  refine al_op rfl rfl rfl (opP_assign rfl (ev_const rfl)) ?_
  refine al_nil ?_
  refine aw_seq ?_
  refine aw_seq ?_
  refine aw_region ?_
  refine al_op rfl rfl rfl (opP_fieldAddr rfl (ev_tmp rfl) u27 rfl rfl s22 rfl) ?_
  refine al_op rfl rfl rfl (opP_load_pt rfl u22 rfl (ev_tmp rfl) rfl rfl) ?_
  refine al_op rfl rfl rfl (opP_len rfl u22 (ev_tmp rfl) (by first | exact lenA_ints | exact lenA_map | rfl)) ?_
  refine al_op rfl rfl rfl (opP_bin rfl (ev_tmp rfl) (ev_const rfl) rfl) ?_
  refine al_op rfl rfl rfl (opP_move rfl (ev_tmp rfl)) ?_
  refine al_opg rfl rfl rfl rfl rfl rfl (opP_fieldAddr rfl (ev_tmp rfl) u27 rfl rfl s22 rfl) ?_
  refine al_opg rfl rfl rfl rfl rfl rfl (opP_load_pt rfl u22 rfl (ev_when rfl id) rfl rfl) ?_
  refine al_opg rfl rfl rfl rfl rfl rfl (opP_len rfl u22 (ev_when rfl id) (by first | exact lenA_ints | exact lenA_map | rfl)) ?_
  refine al_opg rfl rfl rfl rfl rfl rfl (opP_bin rfl (ev_when rfl id) (ev_const rfl) rfl) ?_
  refine al_op rfl rfl rfl (opP_or rfl (ev_tmp rfl) (ev_when rfl id)) ?_
  refine al_op rfl rfl rfl (opP_move rfl (ev_tmp rfl)) ?_
  refine al_opg rfl rfl rfl rfl rfl rfl (opP_fieldAddr rfl (ev_tmp rfl) u27 rfl rfl s25 rfl) ?_
  refine al_opg rfl rfl rfl rfl rfl rfl (opP_load_pt rfl u25 rfl (ev_when rfl id) rfl rfl) ?_
  refine al_opg rfl rfl rfl rfl rfl rfl (opP_len rfl u25 (ev_when rfl id) (by first | exact lenA_ints | exact lenA_map | rfl)) ?_
  refine al_opg rfl rfl rfl rfl rfl rfl (opP_bin rfl (ev_when rfl id) (ev_const rfl) rfl) ?_
  refine al_op rfl rfl rfl (opP_or rfl (ev_tmp rfl) (ev_when rfl id)) ?_
  refine al_nil ?_
  refine aw_cond rfl (fun h1 => ?_) (fun h1 => ?_)
  · refine aw_seq ?_
    refine aw_region ?_
    refine al_op rfl rfl rfl (opP_assign rfl (ev_const rfl)) ?_
    refine al_nil ?_
    refine aw_ret ?_
    have e : longR f = true := by unfold longR; simp at h1 ⊢; omega
    rw [e]; exact ret_id _ (.tmp rfl .nil) rfl trivial rfl rfl
  have hno : (decide (f.params.length > 20) || decide (f.slots.length > 20) || decide (f.blocks.length > 40)) = false := by simp at h1 ⊢; omega
  have hbf : f.blocks.length ≤ 40 := by simp at hno; omega
  refine aw_skip ?_
  refine aw_seq ?_
  refine aw_seq ?_
  refine aw_region ?_
  refine al_op rfl rfl rfl (opP_assign rfl (ev_const rfl)) ?_
  refine al_nil ?_
  refine aw_block ?_
  refine aw_loop' (α := Nat) (fun i => [(1, .pt 101 0), (3, .v (.int .i64 i))]) (fun i => [(101, .var [.dat none (.sl 1 (ints f.params)), .v (.int .i64 f.ret), .dat none (.sl 1 (ints f.slots)), .dat none (.sl 1 (f.blocks.map instsD))])]) (fun i => i ≤ f.blocks.length ∧ ∀ l ∈ f.blocks.take i, longB l = false) (fun i => f.blocks.length - i) 0 ⟨Nat.zero_le _, fun x hx => by simp at hx⟩ id (Fit.of (by repeat (first | exact trivial | refine ⟨rfl, ?_⟩)) (by repeat (first | exact trivial | refine ⟨rfl, ?_⟩)) rfl rfl) ?_
  rintro i ⟨hi, hal⟩
  refine aw_seq ?_
  refine aw_seq ?_
  refine aw_region ?_
  refine al_op rfl rfl rfl (opP_move rfl (ev_tmp rfl)) ?_
  refine al_op rfl rfl rfl (opP_fieldAddr rfl (ev_tmp rfl) u27 rfl rfl s25 rfl) ?_
  refine al_op rfl rfl rfl (opP_load_pt rfl u25 rfl (ev_tmp rfl) rfl rfl) ?_
  refine al_op rfl rfl rfl (opP_len rfl u25 (ev_tmp rfl) (by first | exact lenA_ints | exact lenA_map | rfl)) ?_
  refine al_op rfl rfl rfl (opP_bin rfl (ev_tmp rfl) (ev_tmp rfl) rfl) ?_
  refine al_nil ?_
  refine aw_condS rfl (fun h2 => ?_) (fun h2 => ?_)
  · have ei : i = f.blocks.length := by simp at h2; omega
    rw [ei, List.take_length] at hal
    refine aw_exit ?_
    refine aw_seq ?_
    refine aw_region ?_
    refine al_op rfl rfl rfl (opP_assign rfl (ev_const rfl)) ?_
    refine al_nil ?_
    refine aw_ret ?_
    have e : longR f = false := by unfold longR; rw [hno, List.any_eq_false.2 (fun y hy => by rw [hal y hy]; simp)]; rfl
    rw [e]; exact ret_id _ (.tmp rfl .nil) rfl trivial rfl rfl
  have hil : i < f.blocks.length := by simpa using h2
  refine aw_skip ?_
  refine aw_seq ?_
  refine aw_block ?_
  refine aw_seq ?_
  refine aw_seq ?_
  refine aw_region ?_
  refine al_op rfl rfl rfl (opP_fieldAddr rfl (ev_tmp rfl) u27 rfl rfl s25 rfl) ?_
  refine al_op rfl rfl rfl (opP_load_pt rfl u25 rfl (ev_tmp rfl) rfl rfl) ?_
  refine al_op rfl rfl rfl (opP_move rfl (ev_tmp rfl)) ?_
  refine al_op rfl rfl rfl (opP_index_dat rfl u25 s35 (ev_tmp rfl) (ev_tmp rfl) (fun _ => Int.natCast_nonneg _) (fun _ => blocks_get hil)) ?_
  refine al_op rfl rfl rfl (opP_load_pr rfl u35 rfl (ev_tmp rfl)) ?_
  refine al_op rfl rfl rfl (opP_len rfl u35 (ev_tmp rfl) (by first | exact lenA_ints | exact lenA_map | rfl)) ?_
  refine al_op rfl rfl rfl (opP_bin rfl (ev_tmp rfl) (ev_const rfl) rfl) ?_
  refine al_nil ?_
  refine aw_cond rfl (fun h3 => ?_) (fun h3 => ?_)
  · refine aw_seq ?_
    refine aw_region ?_
    refine al_op rfl rfl rfl (opP_assign rfl (ev_const rfl)) ?_
    refine al_nil ?_
    refine aw_ret ?_
    have hl1 : longB f.blocks[i] = true := by unfold longB; simp [instsD] at h3 ⊢; omega
    have e : longR f = true := by unfold longR; rw [List.any_eq_true.2 ⟨_, List.getElem_mem hil, hl1⟩, Bool.or_true]
    rw [e]; exact ret_id _ (.tmp rfl .nil) rfl trivial rfl rfl
  have hlb : ¬ f.blocks[i].length > 100 := by simp [instsD] at h3; omega
  refine aw_skip ?_
  refine aw_seq ?_
  refine aw_region ?_
  refine al_op rfl rfl rfl (opP_assign rfl (ev_const rfl)) ?_
  refine al_nil ?_
  refine aw_block ?_
  refine aw_loop' (α := Nat) (fun j => [(1, .pt 101 0), (3, .v (.int .i64 i)), (4, .v (.int .i64 j))]) (fun j => [(101, .var [.dat none (.sl 1 (ints f.params)), .v (.int .i64 f.ret), .dat none (.sl 1 (ints f.slots)), .dat none (.sl 1 (f.blocks.map instsD))])]) (fun j => j ≤ f.blocks[i].length ∧ ∀ y ∈ f.blocks[i].take j, longI y = false) (fun j => f.blocks[i].length - j) 0 ⟨Nat.zero_le _, fun x hx => by simp at hx⟩ id (Fit.of (by repeat (first | exact trivial | refine ⟨rfl, ?_⟩)) (by repeat (first | exact trivial | refine ⟨rfl, ?_⟩)) rfl rfl) ?_
  rintro j ⟨hj, hjal⟩
  refine aw_seq ?_
  refine aw_seq ?_
  refine aw_region ?_
  refine al_op rfl rfl rfl (opP_move rfl (ev_tmp rfl)) ?_
  refine al_op rfl rfl rfl (opP_fieldAddr rfl (ev_tmp rfl) u27 rfl rfl s25 rfl) ?_
  refine al_op rfl rfl rfl (opP_load_pt rfl u25 rfl (ev_tmp rfl) rfl rfl) ?_
  refine al_op rfl rfl rfl (opP_move rfl (ev_tmp rfl)) ?_
  refine al_op rfl rfl rfl (opP_index_dat rfl u25 s35 (ev_tmp rfl) (ev_tmp rfl) (fun _ => Int.natCast_nonneg _) (fun _ => blocks_get hil)) ?_
  refine al_op rfl rfl rfl (opP_load_pr rfl u35 rfl (ev_tmp rfl)) ?_
  refine al_op rfl rfl rfl (opP_len rfl u35 (ev_tmp rfl) (by first | exact lenA_ints | exact lenA_map | rfl)) ?_
  refine al_op rfl rfl rfl (opP_bin rfl (ev_tmp rfl) (ev_tmp rfl) rfl) ?_
  refine al_nil ?_
  refine aw_condS rfl (fun h4 => ?_) (fun h4 => ?_)
  · have ej : j = f.blocks[i].length := by simp [instsD] at h4; omega
    rw [ej, List.take_length] at hjal
    refine aw_exit ?_
    refine aw_region ?_
    refine al_op rfl rfl rfl (opP_move rfl (ev_tmp rfl)) ?_
    refine al_op rfl rfl rfl (opP_bin rfl (ev_tmp rfl) (ev_const rfl) rfl) ?_
    refine al_op rfl rfl rfl (opP_assign rfl (ev_tmp rfl)) ?_
    refine al_nil ?_
    refine ⟨i + 1, id, ⟨hil, fun x hx => ?_⟩, by omega, Fit.of ⟨rfl, trivial⟩ ⟨rfl, by rw [← wrapS (by omega)]; rfl, trivial⟩ rfl rfl⟩
    rw [List.take_succ_eq_append_getElem hil] at hx
    rcases List.mem_append.1 hx with hx | hx
    · exact hal x hx
    · rw [List.mem_singleton.1 hx, longB, List.any_eq_false.2 (fun y hy => by rw [hjal y hy]; simp)]; simpa using hlb
  have hjl : j < f.blocks[i].length := by simpa [instsD] using h4
  refine aw_skip ?_
  refine aw_seq ?_
  refine aw_block ?_
  refine aw_seq ?_
  refine aw_region ?_
  refine al_op rfl rfl rfl (opP_fieldAddr rfl (ev_tmp rfl) u27 rfl rfl s25 rfl) ?_
  refine al_op rfl rfl rfl (opP_load_pt rfl u25 rfl (ev_tmp rfl) rfl rfl) ?_
  refine al_op rfl rfl rfl (opP_move rfl (ev_tmp rfl)) ?_
  refine al_op rfl rfl rfl (opP_index_dat rfl u25 s35 (ev_tmp rfl) (ev_tmp rfl) (fun _ => Int.natCast_nonneg _) (fun _ => blocks_get hil)) ?_
  refine al_op rfl rfl rfl (opP_load_pr rfl u35 rfl (ev_tmp rfl)) ?_
  refine al_op rfl rfl rfl (opP_move rfl (ev_tmp rfl)) ?_
  refine al_op rfl rfl rfl (opP_index_dat rfl u35 s38 (ev_tmp rfl) (ev_tmp rfl) (fun _ => Int.natCast_nonneg _) (fun _ => insts_get hjl)) ?_
  refine al_op rfl rfl rfl (opP_fieldAddr rfl (ev_tmp rfl) u38 rfl rfl s22 rfl) ?_
  refine al_op rfl rfl rfl (opP_load_pr rfl u22 rfl (ev_tmp rfl)) ?_
  refine al_op rfl rfl rfl (opP_len rfl u22 (ev_tmp rfl) (by first | exact lenA_ints | exact lenA_map | rfl)) ?_
  refine al_op rfl rfl rfl (opP_bin rfl (ev_tmp rfl) (ev_const rfl) rfl) ?_
  refine al_op rfl rfl rfl (opP_move rfl (ev_tmp rfl)) ?_
  refine al_opg rfl rfl rfl rfl rfl rfl (opP_fieldAddr rfl (ev_tmp rfl) u27 rfl rfl s25 rfl) ?_
  refine al_opg rfl rfl rfl rfl rfl rfl (opP_load_pt rfl u25 rfl (ev_when rfl id) rfl rfl) ?_
  refine al_opg rfl rfl rfl rfl rfl rfl (opP_move rfl (ev_tmp rfl)) ?_
  refine al_opg rfl rfl rfl rfl rfl rfl (opP_index_dat rfl u25 s35 (ev_when rfl id) (ev_when rfl id) (fun _ => Int.natCast_nonneg _) (fun _ => blocks_get hil)) ?_
  refine al_opg rfl rfl rfl rfl rfl rfl (opP_load_pr rfl u35 rfl (ev_when rfl id)) ?_
  refine al_opg rfl rfl rfl rfl rfl rfl (opP_move rfl (ev_tmp rfl)) ?_
  refine al_opg rfl rfl rfl rfl rfl rfl (opP_index_dat rfl u35 s38 (ev_when rfl id) (ev_when rfl id) (fun _ => Int.natCast_nonneg _) (fun _ => insts_get hjl)) ?_
  refine al_opg rfl rfl rfl rfl rfl rfl (opP_fieldAddr rfl (ev_when rfl id) u38 rfl rfl s22 rfl) ?_
  refine al_opg rfl rfl rfl rfl rfl rfl (opP_load_pr rfl u22 rfl (ev_when rfl id)) ?_
  refine al_opg rfl rfl rfl rfl rfl rfl (opP_len rfl u22 (ev_when rfl id) (by first | exact lenA_ints | exact lenA_map | rfl)) ?_
  refine al_opg rfl rfl rfl rfl rfl rfl (opP_bin rfl (ev_when rfl id) (ev_const rfl) rfl) ?_
  refine al_op rfl rfl rfl (opP_or rfl (ev_tmp rfl) (ev_when rfl id)) ?_
  refine al_nil ?_
  refine aw_cond rfl (fun h5 => ?_) (fun h5 => ?_)
  · refine aw_seq ?_
    refine aw_region ?_
    refine al_op rfl rfl rfl (opP_assign rfl (ev_const rfl)) ?_
    refine al_nil ?_
    refine aw_ret ?_
    have hl2 : longI f.blocks[i][j] = true := by unfold longI; simp [ints_len] at h5 ⊢; omega
    have hl1 : longB f.blocks[i] = true := by unfold longB; rw [List.any_eq_true.2 ⟨_, List.getElem_mem hjl, hl2⟩, Bool.or_true]
    have e : longR f = true := by unfold longR; rw [List.any_eq_true.2 ⟨_, List.getElem_mem hil, hl1⟩, Bool.or_true]
    rw [e]; exact ret_id _ (.tmp rfl .nil) rfl trivial rfl rfl
  refine aw_skip ?_
  refine aw_region ?_
  refine al_op rfl rfl rfl (opP_move rfl (ev_tmp rfl)) ?_
  refine al_op rfl rfl rfl (opP_bin rfl (ev_tmp rfl) (ev_const rfl) rfl) ?_
  refine al_op rfl rfl rfl (opP_assign rfl (ev_tmp rfl)) ?_
  refine al_nil ?_
  refine ⟨j + 1, id, ⟨hjl, fun x hx => ?_⟩, by omega, Fit.of ⟨rfl, trivial⟩ ⟨rfl, rfl, by rw [← wrapS (by omega)]; rfl, trivial⟩ rfl rfl⟩
  rw [List.take_succ_eq_append_getElem hjl] at hx
  rcases List.mem_append.1 hx with hx | hx
  · exact hjal x hx
  · rw [List.mem_singleton.1 hx, longI]; simp [ints_len] at h5 ⊢; omega
end Go.AL
namespace Go.AL
open Go.Proofs
theorem u46 : Tryz.prog.underlying 46 = some Tryz.t46.desc := by kernel_rfl
theorem s46 : (Tryz.prog.info? 46).map (·.size) = some 1 := by kernel_rfl
theorem z46 : (Tryz.prog.info? 46).bind (·.zero) = Tryz.t46.zero := by kernel_rfl
theorem b46 : ((Tryz.prog.info? 46).map fun i => Nat.ble i.bytes 1000) = some true := by kernel_rfl
theorem u49 : Tryz.prog.underlying 49 = some Tryz.t48.desc := by kernel_rfl
theorem s49 : (Tryz.prog.info? 49).map (·.size) = some 2 := by kernel_rfl
theorem z49 : (Tryz.prog.info? 49).bind (·.zero) = Tryz.t49.zero := by kernel_rfl
theorem b49 : ((Tryz.prog.info? 49).map fun i => Nat.ble i.bytes 1000) = some true := by kernel_rfl
theorem e20 : Enters Tryz.prog 20 := enters_of Tryz.func20 (by kernel_rfl) (by kernel_rfl)
set_option maxRecDepth 100000 in
set_option maxHeartbeats 4000000 in
theorem c20 (f : Fn) (x : In) (hf : f.Fits) (hx : x.Fits) : Ok Tryz.prog 20 [.dat none (fnD f), .dat none (inD x)] [] (.v (.int .i64 (validInR f x))) [] := by
  refine ok_of e20 Tryz.func20 rfl (by kernel_rfl) ?_
  intro cx hP hro hN hvk
  obtain ⟨P, ro, w0, Bin, N, R0, tk0, bl0, vk⟩ := cx
  subst hP hro hN
  have hvkd := vkd_of hvk
  refine aw_seq ?_
  refine aw_region ?_
  refine al_opc (k := 101) rfl rfl rfl ((hvk _).trans rfl) (opC_box rfl (ev_tmp rfl) rfl) ?_
  refine al_opc (k := 102) rfl rfl rfl ((hvk _).trans rfl) (opC_box rfl (ev_tmp rfl) rfl) ?_
  refine al_op rfl rfl rfl (opP_assign rfl (ev_const rfl)) ?_
  refine al_nil ?_
  refine aw_seq ?_
  refine aw_seq ?_
  refine aw_region ?_
  refine al_op rfl rfl rfl (opP_load_ptn rfl u27 rfl s27 (ev_tmp rfl) rfl rfl) ?_
  refine al_call (id) rfl rfl rfl (callOf_func rfl (.cons (ev_tmp rfl) .nil)) (c14 f hf) (by repeat' (first | refine Vw.stDOf ?_ | refine Vw.ptOf rfl rfl rfl ?_ | refine Vw.prvOf ?_ | refine Vw.cloOf ?_ | constructor)) (fun _ h => absurd h (by simp)) rfl rfl rfl (fun _ h => absurd h (by simp)) ?_
  refine al_op rfl rfl rfl (opP_assign rfl (ev_tmp rfl)) ?_
  refine al_nil ?_
  refine aw_seq ?_
  refine aw_region ?_
  refine al_op rfl rfl rfl (opP_move rfl (ev_tmp rfl)) ?_
  refine al_op rfl rfl rfl (opP_bin rfl (ev_tmp rfl) (ev_const rfl) rfl) ?_
  refine al_nil ?_
  refine aw_cond rfl (fun h1 => ?_) (fun h1 => ?_)
  · refine aw_seq ?_
    refine aw_region ?_
    refine al_op rfl rfl rfl (opP_move rfl (ev_tmp rfl)) ?_
    refine al_op rfl rfl rfl (opP_assign rfl (ev_tmp rfl)) ?_
    refine al_nil ?_
    refine aw_ret ?_
    have e : validInR f x = validateR f := by unfold validInR; rw [if_pos (by simpa using h1)]
    rw [e]; exact ret_id _ (.tmp rfl .nil) rfl trivial rfl rfl
  have hv : validateR f = 0 := by simpa using h1
  refine aw_skip ?_
  refine aw_seq ?_
  refine aw_seq ?_
  refine aw_region ?_
  refine al_op rfl rfl rfl (opP_fieldAddr rfl (ev_tmp rfl) u49 rfl rfl s46 rfl) ?_
  refine al_op rfl rfl rfl (opP_load_pt rfl u46 rfl (ev_tmp rfl) rfl rfl) ?_
  refine al_op rfl rfl rfl (opP_len rfl u46 (ev_tmp rfl) (by first | exact lenA_ints | exact lenA_map | rfl)) ?_
  refine al_op rfl rfl rfl (opP_fieldAddr rfl (ev_tmp rfl) u27 rfl rfl s22 rfl) ?_
  refine al_op rfl rfl rfl (opP_load_pt rfl u22 rfl (ev_tmp rfl) rfl rfl) ?_
  refine al_op rfl rfl rfl (opP_len rfl u22 (ev_tmp rfl) (by first | exact lenA_ints | exact lenA_map | rfl)) ?_
  refine al_op rfl rfl rfl (opP_bin rfl (ev_tmp rfl) (ev_tmp rfl) rfl) ?_
  refine al_op rfl rfl rfl (opP_move rfl (ev_tmp rfl)) ?_
  refine al_opg rfl rfl rfl rfl rfl rfl (opP_fieldAddr rfl (ev_tmp rfl) u49 rfl rfl s47 rfl) ?_
  refine al_opg rfl rfl rfl rfl rfl rfl (opP_load_pt rfl u47 rfl (ev_when rfl id) rfl rfl) ?_
  refine al_opg rfl rfl rfl rfl rfl rfl (opP_len rfl u47 (ev_when rfl id) (by first | exact lenA_ints | exact lenA_map | rfl)) ?_
  refine al_opg rfl rfl rfl rfl rfl rfl (opP_fieldAddr rfl (ev_tmp rfl) u27 rfl rfl s22 rfl) ?_
  refine al_opg rfl rfl rfl rfl rfl rfl (opP_load_pt rfl u22 rfl (ev_when rfl id) rfl rfl) ?_
  refine al_opg rfl rfl rfl rfl rfl rfl (opP_len rfl u22 (ev_when rfl id) (by first | exact lenA_ints | exact lenA_map | rfl)) ?_
  refine al_opg rfl rfl rfl rfl rfl rfl (opP_bin rfl (ev_when rfl id) (ev_when rfl id) rfl) ?_
  refine al_op rfl rfl rfl (opP_or rfl (ev_tmp rfl) (ev_when rfl id)) ?_
  refine al_nil ?_
  refine aw_cond rfl (fun h2 => ?_) (fun h2 => ?_)
  · refine aw_seq ?_
    refine aw_region ?_
    refine al_op rfl rfl rfl (opP_assign rfl (ev_const rfl)) ?_
    refine al_nil ?_
    refine aw_ret ?_
    have e : validInR f x = 1 := by
      unfold validInR
      rw [if_neg (by rw [hv]; decide)]
      rw [if_pos (by simp at h2 ⊢; omega)]
    rw [e]; exact ret_id _ (.tmp rfl .nil) rfl trivial rfl rfl
  have hno : (!(decide (x.args.length = f.params.length)) || !(decide (x.mem.length = f.slots.length))) = false := by simp at h2 ⊢; omega
  have hpl : x.args.length = f.params.length := by simp at hno; omega
  have hml : x.mem.length = f.slots.length := by simp at hno; omega
  have hxa := hx.args
  have hxm := hx.mem
  refine aw_skip ?_
  refine aw_seq ?_
  refine aw_seq ?_
  refine aw_region ?_
  refine al_op rfl rfl rfl (opP_assign rfl (ev_const rfl)) ?_
  refine al_nil ?_
  refine aw_block ?_
  refine aw_loop' (α := Nat) (fun i => [(2, .pt 101 0), (3, .pt 102 0), (6, .v (.int .i64 i))]) (fun i => [(101, .var [.dat none (.sl 1 (ints f.params)), .v (.int .i64 f.ret), .dat none (.sl 1 (ints f.slots)), .dat none (.sl 1 (f.blocks.map instsD))]), (102, .var [.dat none (.sl 1 (words x.args)), .dat none (.sl 1 (x.mem.map rowD))])]) (fun i => i ≤ x.args.length ∧ ∀ m, m < i → isWordR (f.params.getD m 0) (x.args.getD m 0) = true) (fun i => x.args.length - i) 0 ⟨Nat.zero_le _, fun m hm => absurd hm (Nat.not_lt_zero _)⟩ id (Fit.of (by repeat (first | exact trivial | refine ⟨rfl, ?_⟩)) (by repeat (first | exact trivial | refine ⟨rfl, ?_⟩)) rfl rfl) ?_
  rintro i ⟨hi, hal⟩
  refine aw_seq ?_
  refine aw_seq ?_
  refine aw_region ?_
  refine al_op rfl rfl rfl (opP_move rfl (ev_tmp rfl)) ?_
  refine al_op rfl rfl rfl (opP_fieldAddr rfl (ev_tmp rfl) u49 rfl rfl s46 rfl) ?_
  refine al_op rfl rfl rfl (opP_load_pt rfl u46 rfl (ev_tmp rfl) rfl rfl) ?_
  refine al_op rfl rfl rfl (opP_len rfl u46 (ev_tmp rfl) (by first | exact lenA_ints | exact lenA_map | rfl)) ?_
  refine al_op rfl rfl rfl (opP_bin rfl (ev_tmp rfl) (ev_tmp rfl) rfl) ?_
  refine al_nil ?_
  refine aw_cond rfl (fun h3 => ?_) (fun h3 => ?_)
  · have hil : i < x.args.length := by simpa using h3
    have hip : i < f.params.length := by omega
    have hwd := hx.word _ (List.getElem_mem hil)
    refine aw_skip ?_
    refine aw_seq ?_
    refine aw_block ?_
    refine aw_seq ?_
    refine aw_draw mixed ?_
    apply ad_phase' [⟨0, 37, _, [], []⟩, ⟨1, 38, _, [0], []⟩, ⟨2, 39, _, [], []⟩, ⟨3, 40, _, [0, 1, 2], []⟩, ⟨4, 41, _, [0, 1, 2, 3], []⟩, ⟨5, 42, _, [], []⟩, ⟨6, 43, _, [5], []⟩, ⟨7, 44, _, [], []⟩, ⟨8, 45, _, [5, 6, 7], []⟩, ⟨9, 46, _, [5, 6, 7, 8], []⟩, ⟨10, 47, .v (.bool (isWordR f.params[i] x.args[i])), [0, 1, 2, 3, 4, 5, 6, 7, 8, 9], []⟩, ⟨11, 48, _, [0, 1, 2, 3, 4, 5, 6, 7, 8, 9, 10], []⟩] [] (fuelT := 0)
    · skip
      refine .cons rfl (stepD_op rfl (opP_fieldAddr rfl (ev_tmp rfl) u27 rfl rfl s22 rfl)) ?_
      refine .cons rfl (stepD_op rfl (opP_load_pt rfl u22 rfl (ev_tmp rfl) rfl rfl)) ?_
      refine .cons rfl (stepD_op rfl (opP_move rfl (ev_tmp rfl))) ?_
      refine .cons rfl (stepD_op rfl (opP_index_dat rfl u22 s3 (ev_tmp rfl) (ev_tmp rfl) (fun _ => Int.natCast_nonneg _) (fun _ => ints_get hip))) ?_
      refine .cons rfl (stepD_op rfl (opP_load_pr rfl u3 rfl (ev_tmp rfl))) ?_
      refine .cons rfl (stepD_op rfl (opP_fieldAddr rfl (ev_tmp rfl) u49 rfl rfl s46 rfl)) ?_
      refine .cons rfl (stepD_op rfl (opP_load_pt rfl u46 rfl (ev_tmp rfl) rfl rfl)) ?_
      refine .cons rfl (stepD_op rfl (opP_move rfl (ev_tmp rfl))) ?_
      refine .cons rfl (stepD_op rfl (opP_index_dat rfl u46 s36 (ev_tmp rfl) (ev_tmp rfl) (fun _ => Int.natCast_nonneg _) (fun _ => words_get hil))) ?_
      refine .cons rfl (stepD_op rfl (opP_load_pr rfl u36 rfl (ev_tmp rfl))) ?_
      refine .cons rfl (stepD_call (id) rfl (callOf_func rfl (.cons (ev_tmp rfl) (.cons (ev_tmp rfl) .nil))) (c52 f.params[i] x.args[i] hwd) (by repeat' (first | refine Vw.stDOf ?_ | refine Vw.ptOf rfl rfl rfl ?_ | refine Vw.prvOf ?_ | refine Vw.cloOf ?_ | constructor)) rfl rfl rfl (fun _ => rfl) (fun _ => rfl)) ?_
      refine .cons rfl (stepD_op rfl (opP_not rfl (ev_tmp rfl))) ?_
      exact .nil
    · exact .no rfl (.no rfl (.no rfl (.no rfl (.no rfl (.no rfl (.no rfl (.no rfl (.no rfl (.no rfl (.no rfl (.no rfl (.nil))))))))))))
    · rfl
    · rfl
    · rfl
    · rfl
    · intro c s h; first | exact h | (obtain ⟨_, _, h, _⟩ := h; exact h)
    · exact hvkd _ rfl
    · rfl
    refine ad_done rfl ?_
    refine aw_condS rfl (fun h4 => ?_) (fun h4 => ?_)
    · refine aw_skip ?_
      refine aw_region ?_
      refine al_op rfl rfl rfl (opP_move rfl (ev_tmp rfl)) ?_
      refine al_op rfl rfl rfl (opP_bin rfl (ev_tmp rfl) (ev_const rfl) rfl) ?_
      refine al_op rfl rfl rfl (opP_assign rfl (ev_tmp rfl)) ?_
      refine al_nil ?_
      refine ⟨i + 1, id, ⟨hil, fun m hm => ?_⟩, by omega, Fit.of ⟨rfl, rfl, trivial⟩ ⟨rfl, rfl, by rw [← wrapS (by omega)]; rfl, trivial⟩ rfl rfl⟩
      rcases Nat.lt_succ_iff_lt_or_eq.1 hm with hm | rfl
      · exact hal m hm
      · rw [getD_lt hip _, getD_lt hil _]; simpa using h4
    refine aw_seq ?_
    refine aw_region ?_
    refine al_op rfl rfl rfl (opP_assign rfl (ev_const rfl)) ?_
    refine al_nil ?_
    refine aw_ret ?_
    have e : validInR f x = 1 := by
      unfold validInR
      rw [if_neg (by rw [hv]; decide)]
      rw [if_neg (by rw [hno]; decide)]
      rw [if_pos (List.any_eq_true.2 ⟨i, List.mem_range.2 hil, by rw [getD_lt hip _, getD_lt hil _]; simpa using h4⟩)]
    rw [e]; exact ret_id _ (.tmp rfl .nil) rfl trivial rfl rfl
  have ei : i = x.args.length := by simp at h3; omega
  rw [ei] at hal
  have hna : ((List.range x.args.length).any fun i => !(isWordR (f.params.getD i 0) (x.args.getD i 0))) = false := List.any_eq_false.2 fun m hm => by rw [hal m (List.mem_range.1 hm)]; decide
  refine aw_exit ?_
  refine aw_seq ?_
  refine aw_seq ?_
  refine aw_region ?_
  refine al_op rfl rfl rfl (opP_assign rfl (ev_const rfl)) ?_
  refine al_nil ?_
  refine aw_block ?_
  refine aw_loop' (α := Nat) (fun s => [(2, .pt 101 0), (3, .pt 102 0), (7, .v (.int .i64 s))]) (fun s => [(101, .var [.dat none (.sl 1 (ints f.params)), .v (.int .i64 f.ret), .dat none (.sl 1 (ints f.slots)), .dat none (.sl 1 (f.blocks.map instsD))]), (102, .var [.dat none (.sl 1 (words x.args)), .dat none (.sl 1 (x.mem.map rowD))])]) (fun s => s ≤ x.mem.length ∧ ∀ m, m < s → memBad (f.slots.getD m 0) (x.mem.getD m []) = false) (fun s => x.mem.length - s) 0 ⟨Nat.zero_le _, fun m hm => absurd hm (Nat.not_lt_zero _)⟩ id (Fit.of (by repeat (first | exact trivial | refine ⟨rfl, ?_⟩)) (by repeat (first | exact trivial | refine ⟨rfl, ?_⟩)) rfl rfl) ?_
  rintro s ⟨hs, hsl⟩
  refine aw_seq ?_
  refine aw_seq ?_
  refine aw_region ?_
  refine al_op rfl rfl rfl (opP_move rfl (ev_tmp rfl)) ?_
  refine al_op rfl rfl rfl (opP_fieldAddr rfl (ev_tmp rfl) u49 rfl rfl s47 rfl) ?_
  refine al_op rfl rfl rfl (opP_load_pt rfl u47 rfl (ev_tmp rfl) rfl rfl) ?_
  refine al_op rfl rfl rfl (opP_len rfl u47 (ev_tmp rfl) (by first | exact lenA_ints | exact lenA_map | rfl)) ?_
  refine al_op rfl rfl rfl (opP_bin rfl (ev_tmp rfl) (ev_tmp rfl) rfl) ?_
  refine al_nil ?_
  refine aw_condS rfl (fun h5 => ?_) (fun h5 => ?_)
  · have es : s = x.mem.length := by simp at h5; omega
    rw [es] at hsl
    refine aw_exit ?_
    refine aw_seq ?_
    refine aw_region ?_
    refine al_op rfl rfl rfl (opP_assign rfl (ev_const rfl)) ?_
    refine al_nil ?_
    refine aw_ret ?_
    have e : validInR f x = 0 := by
      unfold validInR
      rw [if_neg (by rw [hv]; decide)]
      rw [if_neg (by rw [hno]; decide)]
      rw [if_neg (by rw [hna]; decide), if_neg (by rw [List.any_eq_false.2 fun m hm => by rw [hsl m (List.mem_range.1 hm)]; decide]; decide)]
    rw [e]; exact ret_id _ (.tmp rfl .nil) rfl trivial rfl rfl
  have hsm : s < x.mem.length := by simpa using h5
  have hss : s < f.slots.length := by omega
  have hrl := hx.rows _ (List.getElem_mem hsm)
  refine aw_skip ?_
  refine aw_seq ?_
  refine aw_block ?_
  refine aw_seq ?_
  refine aw_seq ?_
  refine aw_draw mixed ?_
  apply ad_phase' [⟨0, 56, _, [], []⟩, ⟨1, 57, _, [0], []⟩, ⟨2, 58, _, [], []⟩, ⟨3, 59, _, [0, 1, 2], []⟩, ⟨4, 60, _, [0, 1, 2, 3], []⟩, ⟨5, 61, _, [0, 1, 2, 3, 4], []⟩, ⟨6, 62, _, [], []⟩, ⟨7, 63, _, [6], []⟩, ⟨8, 64, _, [], []⟩, ⟨9, 65, _, [6, 7, 8], []⟩, ⟨10, 66, _, [6, 7, 8, 9], []⟩, ⟨11, 67, _, [0, 1, 2, 3, 4, 5, 6, 7, 8, 9, 10], []⟩] [] (fuelT := 0)
  · skip
    refine .cons rfl (stepD_op rfl (opP_fieldAddr rfl (ev_tmp rfl) u49 rfl rfl s47 rfl)) ?_
    refine .cons rfl (stepD_op rfl (opP_load_pt rfl u47 rfl (ev_tmp rfl) rfl rfl)) ?_
    refine .cons rfl (stepD_op rfl (opP_move rfl (ev_tmp rfl))) ?_
    refine .cons rfl (stepD_op rfl (opP_index_dat rfl u47 s22 (ev_tmp rfl) (ev_tmp rfl) (fun _ => Int.natCast_nonneg _) (fun _ => mem_get hsm))) ?_
    refine .cons rfl (stepD_op rfl (opP_load_pr rfl u22 rfl (ev_tmp rfl))) ?_
    refine .cons rfl (stepD_op rfl (opP_len rfl u22 (ev_tmp rfl) (by first | exact lenA_ints | exact lenA_map | rfl))) ?_
    refine .cons rfl (stepD_op rfl (opP_fieldAddr rfl (ev_tmp rfl) u27 rfl rfl s22 rfl)) ?_
    refine .cons rfl (stepD_op rfl (opP_load_pt rfl u22 rfl (ev_tmp rfl) rfl rfl)) ?_
    refine .cons rfl (stepD_op rfl (opP_move rfl (ev_tmp rfl))) ?_
    refine .cons rfl (stepD_op rfl (opP_index_dat rfl u22 s3 (ev_tmp rfl) (ev_tmp rfl) (fun _ => Int.natCast_nonneg _) (fun _ => ints_get hss))) ?_
    refine .cons rfl (stepD_op rfl (opP_load_pr rfl u3 rfl (ev_tmp rfl))) ?_
    refine .cons rfl (stepD_op rfl (opP_bin rfl (ev_tmp rfl) (ev_tmp rfl) rfl)) ?_
    exact .nil
  · exact .no rfl (.no rfl (.no rfl (.no rfl (.no rfl (.no rfl (.no rfl (.no rfl (.no rfl (.no rfl (.no rfl (.no rfl (.nil))))))))))))
  · rfl
  · rfl
  · rfl
  · rfl
  · intro c s h; first | exact h | (obtain ⟨_, _, h, _⟩ := h; exact h)
  · exact hvkd _ rfl
  · rfl
  refine ad_done rfl ?_
  refine aw_cond rfl (fun h6 => ?_) (fun h6 => ?_)
  · refine aw_seq ?_
    refine aw_region ?_
    refine al_op rfl rfl rfl (opP_assign rfl (ev_const rfl)) ?_
    refine al_nil ?_
    refine aw_ret ?_
    have e : validInR f x = 1 := by
      unfold validInR
      rw [if_neg (by rw [hv]; decide)]
      rw [if_neg (by rw [hno]; decide)]
      rw [if_neg (by rw [hna]; decide), if_pos (List.any_eq_true.2 ⟨s, List.mem_range.2 hsm, by rw [getD_lt hss _, getD_lt hsm _]; unfold memBad; rw [show decide ((x.mem[s].length : Int) = f.slots[s]) = false by simpa [rowD, ints_len] using h6]; rfl⟩)]
    rw [e]; exact ret_id _ (.tmp rfl .nil) rfl trivial rfl rfl
  have hlen : (x.mem[s].length : Int) = f.slots[s] := by simpa [rowD, ints_len] using h6
  refine aw_skip ?_
  refine aw_seq ?_
  refine aw_region ?_
  refine al_op rfl rfl rfl (opP_assign rfl (ev_const rfl)) ?_
  refine al_nil ?_
  refine aw_block ?_
  refine aw_loop' (α := Nat) (fun k => [(2, .pt 101 0), (3, .pt 102 0), (7, .v (.int .i64 s)), (8, .v (.int .i64 k))]) (fun k => [(101, .var [.dat none (.sl 1 (ints f.params)), .v (.int .i64 f.ret), .dat none (.sl 1 (ints f.slots)), .dat none (.sl 1 (f.blocks.map instsD))]), (102, .var [.dat none (.sl 1 (words x.args)), .dat none (.sl 1 (x.mem.map rowD))])]) (fun k => k ≤ x.mem[s].length ∧ ∀ y ∈ x.mem[s].take k, ¬ (y < -1 ∨ y > 255)) (fun k => x.mem[s].length - k) 0 ⟨Nat.zero_le _, fun y hy => by simp at hy⟩ id (Fit.of (by repeat (first | exact trivial | refine ⟨rfl, ?_⟩)) (by repeat (first | exact trivial | refine ⟨rfl, ?_⟩)) rfl rfl) ?_
  rintro k ⟨hk, hkl⟩
  refine aw_seq ?_
  refine aw_seq ?_
  refine aw_region ?_
  refine al_op rfl rfl rfl (opP_move rfl (ev_tmp rfl)) ?_
  refine al_op rfl rfl rfl (opP_fieldAddr rfl (ev_tmp rfl) u49 rfl rfl s47 rfl) ?_
  refine al_op rfl rfl rfl (opP_load_pt rfl u47 rfl (ev_tmp rfl) rfl rfl) ?_
  refine al_op rfl rfl rfl (opP_move rfl (ev_tmp rfl)) ?_
  refine al_op rfl rfl rfl (opP_index_dat rfl u47 s22 (ev_tmp rfl) (ev_tmp rfl) (fun _ => Int.natCast_nonneg _) (fun _ => mem_get hsm)) ?_
  refine al_op rfl rfl rfl (opP_load_pr rfl u22 rfl (ev_tmp rfl)) ?_
  refine al_op rfl rfl rfl (opP_len rfl u22 (ev_tmp rfl) (by first | exact lenA_ints | exact lenA_map | rfl)) ?_
  refine al_op rfl rfl rfl (opP_bin rfl (ev_tmp rfl) (ev_tmp rfl) rfl) ?_
  refine al_nil ?_
  refine aw_condS rfl (fun h7 => ?_) (fun h7 => ?_)
  · have ek : k = x.mem[s].length := by simp [rowD, ints_len] at h7; omega
    rw [ek, List.take_length] at hkl
    refine aw_exit ?_
    refine aw_region ?_
    refine al_op rfl rfl rfl (opP_move rfl (ev_tmp rfl)) ?_
    refine al_op rfl rfl rfl (opP_bin rfl (ev_tmp rfl) (ev_const rfl) rfl) ?_
    refine al_op rfl rfl rfl (opP_assign rfl (ev_tmp rfl)) ?_
    refine al_nil ?_
    refine ⟨s + 1, id, ⟨hsm, fun m hm => ?_⟩, by omega, Fit.of ⟨rfl, rfl, trivial⟩ ⟨rfl, rfl, by rw [← wrapS (by omega)]; rfl, trivial⟩ rfl rfl⟩
    rcases Nat.lt_succ_iff_lt_or_eq.1 hm with hm | rfl
    · exact hsl m hm
    · rw [getD_lt hss _, getD_lt hsm _]; unfold memBad; rw [List.any_eq_false.2 (fun y hy => by simpa using hkl y hy), hlen]; simp
  have hkm : k < x.mem[s].length := by simpa [rowD, ints_len] using h7
  refine aw_skip ?_
  refine aw_seq ?_
  refine aw_block ?_
  refine aw_seq ?_
  refine aw_region ?_
  refine al_op rfl rfl rfl (opP_fieldAddr rfl (ev_tmp rfl) u49 rfl rfl s47 rfl) ?_
  refine al_op rfl rfl rfl (opP_load_pt rfl u47 rfl (ev_tmp rfl) rfl rfl) ?_
  refine al_op rfl rfl rfl (opP_move rfl (ev_tmp rfl)) ?_
  refine al_op rfl rfl rfl (opP_index_dat rfl u47 s22 (ev_tmp rfl) (ev_tmp rfl) (fun _ => Int.natCast_nonneg _) (fun _ => mem_get hsm)) ?_
  refine al_op rfl rfl rfl (opP_load_pr rfl u22 rfl (ev_tmp rfl)) ?_
  refine al_op rfl rfl rfl (opP_move rfl (ev_tmp rfl)) ?_
  refine al_op rfl rfl rfl (opP_index_dat rfl u22 s3 (ev_tmp rfl) (ev_tmp rfl) (fun _ => Int.natCast_nonneg _) (fun _ => ints_get hkm)) ?_
  refine al_op rfl rfl rfl (opP_load_pr rfl u3 rfl (ev_tmp rfl)) ?_
  refine al_op rfl rfl rfl (opP_bin rfl (ev_tmp rfl) (ev_const rfl) rfl) ?_
  refine al_op rfl rfl rfl (opP_move rfl (ev_tmp rfl)) ?_
  refine al_opg rfl rfl rfl rfl rfl rfl (opP_fieldAddr rfl (ev_tmp rfl) u49 rfl rfl s47 rfl) ?_
  refine al_opg rfl rfl rfl rfl rfl rfl (opP_load_pt rfl u47 rfl (ev_when rfl id) rfl rfl) ?_
  refine al_opg rfl rfl rfl rfl rfl rfl (opP_move rfl (ev_tmp rfl)) ?_
  refine al_opg rfl rfl rfl rfl rfl rfl (opP_index_dat rfl u47 s22 (ev_when rfl id) (ev_when rfl id) (fun _ => Int.natCast_nonneg _) (fun _ => mem_get hsm)) ?_
  refine al_opg rfl rfl rfl rfl rfl rfl (opP_load_pr rfl u22 rfl (ev_when rfl id)) ?_
  refine al_opg rfl rfl rfl rfl rfl rfl (opP_move rfl (ev_tmp rfl)) ?_
  refine al_opg rfl rfl rfl rfl rfl rfl (opP_index_dat rfl u22 s3 (ev_when rfl id) (ev_when rfl id) (fun _ => Int.natCast_nonneg _) (fun _ => ints_get hkm)) ?_
  refine al_opg rfl rfl rfl rfl rfl rfl (opP_load_pr rfl u3 rfl (ev_when rfl id)) ?_
  refine al_opg rfl rfl rfl rfl rfl rfl (opP_bin rfl (ev_when rfl id) (ev_const rfl) rfl) ?_
  refine al_op rfl rfl rfl (opP_or rfl (ev_tmp rfl) (ev_when rfl id)) ?_
  refine al_nil ?_
  refine aw_cond rfl (fun h8 => ?_) (fun h8 => ?_)
  · refine aw_seq ?_
    refine aw_region ?_
    refine al_op rfl rfl rfl (opP_assign rfl (ev_const rfl)) ?_
    refine al_nil ?_
    refine aw_ret ?_
    have e : validInR f x = 1 := by
      unfold validInR
      rw [if_neg (by rw [hv]; decide)]
      rw [if_neg (by rw [hno]; decide)]
      rw [if_neg (by rw [hna]; decide), if_pos (List.any_eq_true.2 ⟨s, List.mem_range.2 hsm, by rw [getD_lt hss _, getD_lt hsm _]; unfold memBad; rw [List.any_eq_true.2 ⟨_, List.getElem_mem hkm, by simp at h8 ⊢; omega⟩, Bool.or_true]⟩)]
    rw [e]; exact ret_id _ (.tmp rfl .nil) rfl trivial rfl rfl
  refine aw_skip ?_
  refine aw_region ?_
  refine al_op rfl rfl rfl (opP_move rfl (ev_tmp rfl)) ?_
  refine al_op rfl rfl rfl (opP_bin rfl (ev_tmp rfl) (ev_const rfl) rfl) ?_
  refine al_op rfl rfl rfl (opP_assign rfl (ev_tmp rfl)) ?_
  refine al_nil ?_
  refine ⟨k + 1, id, ⟨hkm, fun y hy => ?_⟩, by omega, Fit.of ⟨rfl, rfl, trivial⟩ ⟨rfl, rfl, rfl, by rw [← wrapS (by omega)]; rfl, trivial⟩ rfl rfl⟩
  rw [List.take_succ_eq_append_getElem hkm] at hy
  rcases List.mem_append.1 hy with hy | hy
  · exact hkl y hy
  · rw [List.mem_singleton.1 hy]; simp at h8; omega
end Go.AL
namespace Go.AL
structure Valid (f : Fn) : Prop where
  big : bigR f = false
  many : manyR f = false
  ret : retBad f = false
  params : f.params.all isW = true
  slots : slotsOk f = true
  args : argsOk f = true
  rules : rulesR f = true
  types : typesOk f = true
  stated : statedR f = true
theorem validate_zero {f : Fn} (h : validateR f = 0) : Valid f := by
  have h1 : bigR f = false := by cases e : bigR f with | false => rfl | true => simp [validateR, e] at h
  have h2 : manyR f = false := by cases e : manyR f with | false => rfl | true => simp [validateR, h1, e] at h
  have h3 : retBad f = false := by cases e : retBad f with | false => rfl | true => simp [validateR, h1, h2, e] at h
  have h4 : f.params.all isW = true := by cases e : f.params.all isW with | true => rfl | false => simp only [validateR, h1, h2, h3, e] at h; simp at h
  have h5 : slotsOk f = true := by cases e : slotsOk f with | true => rfl | false => simp only [validateR, h1, h2, h3, h4, e] at h; simp at h
  have h6 : argsOk f = true := by cases e : argsOk f with | true => rfl | false => simp only [validateR, h1, h2, h3, h4, h5, e] at h; simp at h
  have h7 : rulesR f = true := by cases e : rulesR f with | true => rfl | false => simp only [validateR, h1, h2, h3, h4, h5, h6, e] at h; simp at h
  have h8 : typesOk f = true := by cases e : typesOk f with | true => rfl | false => simp only [validateR, h1, h2, h3, h4, h5, h6, h7, e] at h; simp at h
  have h9 : statedR f = true := by cases e : statedR f with | true => rfl | false => simp only [validateR, h1, h2, h3, h4, h5, h6, h7, h8, e] at h; simp at h
  exact ⟨h1, h2, h3, h4, h5, h6, h7, h8, h9⟩
theorem Valid.width {f : Fn} (h : Valid f) {w : Int} (hw : w ∈ f.params) : isW w = true := List.all_eq_true.1 h.params w hw
theorem Valid.slot {f : Fn} (h : Valid f) {z : Int} (hz : z ∈ f.slots) : 1 ≤ z ∧ z ≤ 8 := by
  have := List.all_eq_true.1 h.slots z hz
  simp [slotBad] at this; omega
def inErrR (f : Fn) (n : Int) : Int := if validateR f ≠ 0 then validateR f else if n < 0 ∨ n > 64 then 1 else 0
def inputsL (f : Fn) (n : Int) : List In := if inErrR f n = 0 then inputsR f n.toNat else []
theorem argsR_len (f : Fn) (s : Int) (n : Nat) : (argsR f s n).length = n := by simp [argsR]
theorem rowR_len (s : Int) (o n : Nat) : (rowR s o n).length = n := by simp [rowR]
theorem memsR_len (f : Fn) (s : Int) (n : Nat) : (memsR f s n).length = n := by simp [memsR]
theorem inputsR_len (f : Fn) (n : Nat) : (inputsR f n).length = n := by simp [inputsR]
theorem argsR_succ (f : Fn) (s : Int) {n : Nat} (h : n < f.params.length) : argsR f s (n + 1) = argsR f s n ++ [wordV f.params[n] (seedAt s n)] := by simp [argsR, List.range_succ, h]
theorem rowR_succ (s : Int) (o n : Nat) : rowR s o (n + 1) = rowR s o n ++ [wordV 8 (seedAt s (o + n))] := by simp [rowR, List.range_succ]
theorem memsR_succ (f : Fn) (s : Int) {n : Nat} (h : n < f.slots.length) : memsR f s (n + 1) = memsR f s n ++ [rowR s (offR f n) f.slots[n].toNat] := by simp [memsR, List.range_succ, h]
theorem inputsR_succ (f : Fn) (n : Nat) : inputsR f (n + 1) = inputsR f n ++ [inputR f n] := by simp [inputsR, List.range_succ]
theorem offR_zero (f : Fn) : offR f 0 = f.params.length := by simp [offR]
theorem offR_succ (f : Fn) {n : Nat} (h : n < f.slots.length) : offR f (n + 1) = offR f n + f.slots[n].toNat := by
  unfold offR
  rw [List.take_succ_eq_append_getElem h, List.map_append, List.sum_append]; simp; omega
theorem words_append (l m : List Int) : words (l ++ m) = words l ++ words m := by simp [words]
theorem ints_append (l m : List Int) : ints (l ++ m) = ints l ++ ints m := by simp [ints]
theorem input_fits {f : Fn} (hf : f.Fits) (hv : Valid f) (k : Nat) : (inputR f k).Fits := by
  constructor
  · simp only [inputR, argsR_len]; exact hf.params
  · simp only [inputR, memsR_len]; exact hf.slots
  · intro l hl
    simp only [inputR, memsR, List.mem_map, List.mem_range] at hl
    obtain ⟨t, ht, rfl⟩ := hl
    have := hv.slot (List.getElem_mem ht)
    rw [rowR_len, getD_lt ht]; omega
  · intro a ha
    simp only [inputR, argsR, List.mem_map, List.mem_range] at ha
    obtain ⟨t, ht, rfl⟩ := ha
    exact wordV_u32 _ (seedAt_u32 (seed0_u32 k) _)
  · intro l hl a ha
    simp only [inputR, memsR, List.mem_map, List.mem_range] at hl
    obtain ⟨t, ht, rfl⟩ := hl
    simp only [rowR, List.mem_map, List.mem_range] at ha
    obtain ⟨j, hj, rfl⟩ := ha
    have := wordV_u32 8 (seedAt_u32 (seed0_u32 k) (offR f t + j))
    simp only [U32, I64] at *; omega
theorem word8 (s : Int) : 0 ≤ wordV 8 s ∧ wordV 8 s < 256 := wordV_lt (w := 8) rfl
theorem input_valid {f : Fn} (h : validateR f = 0) (k : Nat) : validInR f (inputR f k) = 0 := by
  have hv := validate_zero h
  unfold validInR
  rw [if_neg (by rw [h]; decide), if_neg (by simp [inputR, argsR_len, memsR_len])]
  rw [if_neg, if_neg]
  · intro hc
    obtain ⟨t, ht, hb⟩ := List.any_eq_true.1 hc
    simp only [inputR, memsR_len, List.mem_range] at ht
    have hz := hv.slot (List.getElem_mem ht)
    have e : (inputR f k).mem.getD t [] = rowR (seed0 k) (offR f t) f.slots[t].toNat := by
      simp [inputR, memsR, List.getD_eq_getElem?_getD, ht]
    rw [e, getD_lt ht, memBad, rowR_len] at hb
    rw [show decide (((f.slots[t].toNat : Nat) : Int) = f.slots[t]) = true by rw [decide_eq_true_eq]; omega] at hb
    simp only [Bool.not_true, Bool.false_or, List.any_eq_true] at hb
    obtain ⟨b, hb1, hb2⟩ := hb
    simp only [rowR, List.mem_map, List.mem_range] at hb1
    obtain ⟨j, hj, rfl⟩ := hb1
    have := word8 (seedAt (seed0 k) (offR f t + j))
    simp at hb2; omega
  · intro hc
    obtain ⟨t, ht, hb⟩ := List.any_eq_true.1 hc
    simp only [inputR, argsR_len, List.mem_range] at ht
    have hw := hv.width (List.getElem_mem ht)
    have e : (inputR f k).args.getD t 0 = wordV f.params[t] (seedAt (seed0 k) t) := by
      simp [inputR, argsR, List.getD_eq_getElem?_getD, ht]
    rw [e, getD_lt ht, isWordR, hw] at hb
    have := wordV_lt (s := seedAt (seed0 k) t) hw
    simp [this.2] at hb
theorem input_zero (f : Fn) : (∀ a ∈ (inputR f 0).args, a = 0) ∧ ∀ l ∈ (inputR f 0).mem, ∀ a ∈ l, a = 0 := by
  constructor
  · intro a ha
    simp only [inputR, argsR, List.mem_map] at ha
    obtain ⟨t, _, rfl⟩ := ha
    show wordV _ (seedAt 0 t) = 0
    rw [seedAt_zero, wordV_zero]
  · intro l hl a ha
    simp only [inputR, memsR, List.mem_map] at hl
    obtain ⟨t, _, rfl⟩ := hl
    simp only [rowR, List.mem_map] at ha
    obtain ⟨j, _, rfl⟩ := ha
    show wordV 8 (seedAt 0 _) = 0
    rw [seedAt_zero, wordV_zero]
theorem seed_round (k : Nat) : IntKind.u32.wrap (IntKind.u32.wrap (IntKind.u32.wrap (k : Int) * 2654435761) + 12345) = seed0 (k + 1) := by
  simp only [IntKind.wrap_u32, seed0]; omega
end Go.AL
